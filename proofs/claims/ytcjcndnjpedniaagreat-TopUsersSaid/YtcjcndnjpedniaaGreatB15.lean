/- A part of the proof of TopUsers. -/
import Derived.Test.YtcjcndnjpedniaaGreatB14
namespace Go.Proofs.YtcjcndnjpedniaaGreat
set_option linter.all false
set_option maxRecDepth 100000
set_option maxHeartbeats 8000000
open Go.RowKit
section
variable {w w' W:Bc} {g a g2 a2 g3 a3 c2 c3 h b h2 b2 h3 b3 d2 d3:Nat} {x y:DZ}
theorem Xq (op:Int) (b c:Option Addr) (e f:Nat) (a:List BB) (w:Bc) (n:a.length<=100) (h:Ay Value.string w w.heap.size 1 b a) (h2:Ay Value.string w w.heap.size 1 c a) :
  Calls Tryz.prog 226 #[.agg #[zI op,.slice b a.length e],.agg #[zI op,.slice c a.length f]] w (Rt (.bool true) (Au w)):=by
 have d:=fun W (i:Au w W)=>Qt b c e f W.heap.size W.heap.size a a W (by omega) (by omega) (h.AB i) (h2.AB i)
 rw[BH rfl] at d;have j:=Lh d;have g:Hid (Au w ((w.alloc (.cells #[zI op,.slice b a.length e] 40)).alloc (.cells #[zI op,.slice c a.length f] 40))):=Lh (((Aa _ w).alloc _).alloc _);have l:(op==op)=true:=by simp
 clear d h h2;go_in;go_wp2_with (go_at_call 260;refine(j.out _ g.out).mono ?_;rintro m o ⟨rfl,k,rfl⟩);go_ret;exact⟨rfl,g.out.drewN k⟩
theorem jR (boot:Int) (c d:Nat) (w:Bc) (k:Er w g a g2 a2 g3 a3 c2 c3 x) (l:Er w h b h2 b2 h3 b3 d2 d3 y) (n:x.value≠y.value) :
  Calls Tryz.prog 193 #[.agg #[zI boot,zS g a 1 c],.agg #[zI boot,zS h b 1 d]] w (Rt (.bool false) (Au w)):=by
 have j:Hid (Au w ((w.alloc (.cells #[zI boot,zS g a 1 c] 36)).alloc (.cells #[zI boot,zS h b 1 d] 36))):=Lh (((Aa _ w).alloc _).alloc _);have i:Hid (AX ((w.alloc (.cells #[zI boot,zS g a 1 c] 36)).alloc (.cells #[zI boot,zS h b 1 d] 36)) (w.heap.size+1) 36 #[zI boot,zS h b 1 d]):=Lh (AX.at_ _ _ (by simp));have r:(boot != boot)=false:=by simp
 have s:(x.value != y.value)=true:=by rw[bne_iff_ne];exact n
 clear n;have e:=Lh (k.AB j.out);have f:=Lh (l.AB j.out);clear k l;go_in;go_wp2_with fail;obtain⟨p,m⟩:∃ o,o=w.heap.size+1:=⟨_,rfl⟩
 generalize (w.alloc (.cells #[zI boot,zS g a 1 c] 36)).alloc (.cells #[zI boot,zS h b 1 d] 36)=q at j i e f ⊢;rw[<- m] at i ⊢;clear m;refine wp_loop_rounds 2 ?_;rw[rounds_succ];have C:=e.out.k0;have D:=e.out.k1;have E:=e.out.k2;have F:=f.out.k0;have G:=f.out.k1;have H:=f.out.k2;have t:=e.out.e0;have u:=e.out.e1;have I:Cl q p 1 (zS h b 1 d):=i.out.cell 1;have v:=f.out.lt.1;have z:=i.out.lt;have A:=e.out.lt.2.1;have B:=f.out.lt.2.1;clear e f i;go_wp2;go_ret;exact⟨rfl,((j.out.alloc _).alloc _)⟩
theorem same_eq (boot:Int) (c d:Nat) (w:Bc) (J:Er w g a g2 a2 g3 a3 c2 c3 x) (K:Er w h b h2 b2 h3 b3 d2 d3 x) :
  Calls Tryz.prog 193 #[.agg #[zI boot,zS g a 1 c],.agg #[zI boot,zS h b 1 d]] w (Rt (.bool true) (Au w)):=by
 have j:Hid (Au w ((w.alloc (.cells #[zI boot,zS g a 1 c] 36)).alloc (.cells #[zI boot,zS h b 1 d] 36))):=Lh (((Aa _ w).alloc _).alloc _);have t:Hid (AX ((w.alloc (.cells #[zI boot,zS g a 1 c] 36)).alloc (.cells #[zI boot,zS h b 1 d] 36)) (w.heap.size+1) 36 #[zI boot,zS h b 1 d]):=Lh (AX.at_ _ _ (by simp));have af:(boot != boot)=false:=by simp
 have ag:(x.value != x.value)=false:=by simp
 have ah:(x.version != x.version)=false:=by simp
 have aj:=Lh (J.AB j.out);have f:=Lh (K.AB j.out);clear J K;go_in;go_wp2_with fail;obtain⟨ad,L⟩:∃ q,q=w.heap.size+1:=⟨_,rfl⟩
 generalize (w.alloc (.cells #[zI boot,zS g a 1 c] 36)).alloc (.cells #[zI boot,zS h b 1 d] 36)=i at j t aj f ⊢;rw[<- L] at t ⊢;clear L;refine wp_loop_rounds 2 ?_;rw[rounds_succ];have U:=aj.out.k0;have V:=aj.out.k1;have X:=aj.out.k2;have Y:=f.out.k0;have Z:=f.out.k1;have aa:=f.out.k2;have n:=aj.out.e0;have o:=aj.out.e1;have ab:Cl i ad 1 (zS h b 1 d):=t.out.cell 1;have z:=f.out.lt.1;have D:=t.out.lt;have A:=aj.out.lt.2.1;have T:=f.out.lt.2.1;go_upto_region 9 with(fail)
 have y:Au i ((i.alloc (.cells #[zI x.value,zS g2 a2 1 c2,zI x.version] 43)).alloc (.cells #[zI x.value,zS h2 b2 1 d2,zI x.version] 43)):=((Aa _ i).alloc _).alloc _;have B:Hid (AX ((i.alloc (.cells #[zI x.value,zS g2 a2 1 c2,zI x.version] 43)).alloc (.cells #[zI x.value,zS h2 b2 1 d2,zI x.version] 43)) i.heap.size 43 #[zI x.value,zS g2 a2 1 c2,zI x.version]):=Lh ((AX.new i _ _).alloc _);have m:Hid (AX ((i.alloc (.cells #[zI x.value,zS g2 a2 1 c2,zI x.version] 43)).alloc (.cells #[zI x.value,zS h2 b2 1 d2,zI x.version] 43)) (i.heap.size+1) 43 #[zI x.value,zS h2 b2 1 d2,zI x.version]):=Lh (AX.at_ _ _ (by simp));replace aj:=Lh (aj.out.AB y);replace f:=Lh (f.out.AB y);replace j:=Lh (j.out.to y);obtain⟨P,M⟩:∃ q,q=i.heap.size:=⟨_,rfl⟩
 generalize (i.alloc (.cells #[zI x.value,zS g2 a2 1 c2,zI x.version] 43)).alloc (.cells #[zI x.value,zS h2 b2 1 d2,zI x.version] 43)=l at aj f j B m ⊢;rw[<- M] at B m ⊢;clear M y U V X Y Z aa n o ab z D A T t;obtain⟨F,N⟩:∃ q,q=P+1:=⟨_,rfl⟩
 rw[<- N] at m ⊢;clear N;have S:Cl l P 1 (zS g2 a2 1 c2):=B.out.cell 1;have n:=aj.out.e0;have o:=aj.out.e1;go_wp2_with fail;refine wp_loop_rounds 2 ?_;rw[rounds_succ];go_upto_region 12 with(fail)
 have v:Au l (l.alloc (.cells #[zI x.op,zS g3 a3 1 c3] 40)):=(Aa _ l).alloc _;have u:Hid (AX (l.alloc (.cells #[zI x.op,zS g3 a3 1 c3] 40)) l.heap.size 40 #[zI x.op,zS g3 a3 1 c3]):=Lh (AX.new l _ _);replace m:=Lh (m.out.Ab v id);replace aj:=Lh (aj.out.AB v);replace f:=Lh (f.out.AB v);replace j:=Lh (j.out.to v);obtain⟨s,O⟩:∃ q,q=l.heap.size:=⟨_,rfl⟩
 generalize l.alloc (.cells #[zI x.op,zS g3 a3 1 c3] 40)=r at aj f j m u ⊢;rw[<- O] at u ⊢;clear O v S n o;have G:Cl r s 0 (zI x.op):=u.out.cell 0;have H:Cl r s 1 (zS g3 a3 1 c3):=u.out.cell 1;have E:Cl r F 1 (zS h2 b2 1 d2):=m.out.cell 1;have n:=f.out.e0;have o:=f.out.e1;have Q:=Lh fun W (I:Au r W)=>Xq x.op (some (zA g3 a3)) (some (zA h3 b3)) c3 d3 [x.who] W (by simp) (aj.out.AB I).reads (f.out.AB I).reads
 have z:=u.out.lt;have D:=m.out.lt;have A:=f.out.lt.2.1;go_cut [73] fun ac W=>ac= .bool false/\Au r W
 case first =>
  go_region_held3 (fun W=>Cl W s 0 (zI x.op)/\Cl W s 1 (zS g3 a3 1 c3)/\Cl W F 1 (zS h2 b2 1 d2)/\Cl W h2 b2 (zI x.op)/\Cl W h2 (b2+1) (zS h3 b3 1 d3))
   (first
    |exact⟨G,H,E,n,o⟩
    |exact⟨(k.cell (p:=zA s 0) z id).trans G,(k.cell (p:=zA s 1) z id).trans H,(k.cell (p:=zA F 1) D id).trans E,(k.cell (p:=zA h2 b2) A id).trans n,(k.cell (p:=zA h2 (b2+1)) A id).trans o⟩)
   (first
    |(go_at_call 226;refine(Q.out _ (by first|exact Aa _ _|exact(Aa _ _).drew)).mono ?_;rintro e ae ⟨rfl,C⟩;have k:Au r ae:=(by first|exact C|exact((Aa _ _).drew).to C);clear C))
  go_wp2;go_meet;exact⟨rfl,k⟩
 case rest =>
  obtain⟨rfl,k⟩:=hcut;have R:=Lh (j.out.to k);clear k G H E n o;go_wp2;rw[rounds_succ];go_wp2;rw[rounds_succ];go_wp2;go_ret;exact⟨rfl,R.out⟩
end

structure Ed where
 c:Ca
 A:Option Addr
 k:Nat
def Gy (z:Ed):Value:=.agg (Cu z.c z.A z.k)
structure Dt (w:Bc) (A:Option Addr) (Z:List Ed):Prop where
 r:Ay Gy w w.heap.size 7 A Z
 s:∀ z∈Z,Ay Value.string w w.heap.size 1 z.A z.c.Bl
def mK (a ch seq op arg e b:Int) (v:Value):Array Value:=#[zI a,zU ch,zI seq,zO,zI op,zI arg,zO,zN,zI e,zI b,zE,v]
section
variable {w w' W:Bc}
theorem Dt.AB {A:Option Addr} {Z:List Ed} (a:Dt w A Z) (b:Au w w'):Dt w' A Z:=⟨a.r.AB b,fun d c=>(a.s d c).AB b⟩
theorem NP (a:Int) (w:Bc) (ha:Ey a) (b:a/8192=2):Calls Tryz.prog 156 #[zU a] w (Rt (.bool true) fun w'=>w=w'):=by
 obtain⟨c,e⟩:=ha;have d:IntKind.u16.wrap (a.tdiv 8192)=2:=by
  rw[Dk c,b];decide
 clear b;go_in;go_wp2;go_ret;exact⟨rfl,rfl⟩
theorem PV (n:Int) (w:Bc) (a:0<=n) (b:n<=4611686018427387904):Calls Tryz.prog 159 #[zI n] w (Rt (.bool true) fun w'=>w=w'):=by
 have c:decide (0<=n)=true:=by simpa using a
 have d:decide (n<=4611686018427387904)=true:=by simpa using b
 go_in;go_wp2;go_ret;exact⟨rfl,rfl⟩
theorem gY (f:Value) (w:Bc):Calls Tryz.prog 231 #[zN,zN,f] w (Rt (.bool true) fun w'=>w=w'):=by
 go_in;go_wp2_with fail;refine wp_loop_rounds 1 ?_;rw[rounds_succ];go_wp2;go_ret;exact⟨rfl,rfl⟩
def lK:Array Value:=#[zO,zO,zO,zO,zN]
theorem Su (w:Bc):Calls Tryz.prog 230 #[.agg #[zO,zO,zO,zO,zN],.agg #[zO,zO,zO,zO,zN]] w (Rt (.bool true) (Au w)):=by
 have b:Hid (∀ W,Calls Tryz.prog 260 #[zN,zN] W (Rt (.bool true) fun w'=>∃ c,w'=W.drewN c)):=Lh fun W=>Qt none none 0 0 0 0 [] [] W (by simp) (by simp) reads_nil reads_nil
 have a:Hid (Au w ((w.alloc (.cells lK 48)).alloc (.cells lK 48))):=Lh (((Aa _ w).alloc _).alloc _);have ha:lK=#[zO,zO,zO,zO,zN]:=rfl;rw[ha] at a;clear ha;go_in;go_wp2_with (go_at_call 260;refine(b.out _).mono ?_;rintro e f ⟨rfl,d,rfl⟩);go_ret;exact⟨rfl,a.out.drewN d⟩
theorem VU (a:Int) (w:Bc):Calls Tryz.prog 197 #[.agg (mK a 0 0 0 0 0 0 (zN)),.agg (mK a 0 0 0 0 0 0 (zN))] w (Rt (.bool true) (Au w)):=by
 have d:=Lh fun W=>Su W
 have e:=Lh fun i W=>gY i W
 have j:(a==a)=true:=by simp
 have c:mK a 0 0 0 0 0 0 (zN)=#[zI a,zU 0,zO,zO,zO,zO,zO,zN,zO,zO,zE,zN]:=rfl;rw[c];clear c;have f:Hid (Au w ((w.alloc (.cells #[zI a,zU 0,zO,zO,zO,zO,zO,zN,zO,zO,zE,zN] 104)).alloc (.cells #[zI a,zU 0,zO,zO,zO,zO,zO,zN,zO,zO,zE,zN] 104))):=Lh (((Aa _ w).alloc _).alloc _);go_in;go_wp2_with (first
  |(go_at_call 230;refine(d.out _).mono ?_;rintro h m ⟨rfl,b⟩;have g:=Lh (f.out.to b);have k:=(b.cell (p:=zA w.heap.size 11) (by simp;omega) id);have l:=(b.cell (p:=zA (w.heap.size+1) 11) (by simp) id);clear b)
  |(go_at_call 231;refine(e.out _ _).mono ?_;rintro h n ⟨rfl,rfl⟩))
 go_ret;exact⟨rfl,g.out⟩
end

section
variable {w w' W:Bc}
theorem BM:(Tryz.prog.info? 104).map (·.size)=some 12:=by kernel_rfl
theorem Dt.cells {A:Option Addr} {Z:List Ed} (d:Dt w A Z) {j:Nat} (e:j<Z.length):∃ b a,A=some (zA b a)/\b<w.heap.size/\∀ i,i<7->w.cell? (zA b (a+j*7+i))=(Cu Z[j].c Z[j].A Z[j].k)[i]?:=d.r j e
theorem PO (A:Option Addr) (k:Nat) (Z:List Ed) (w:Bc) (f:∀ z∈Z,Cn z.c) (L:Z.length<=8) (h:Dt w A Z) :
  Calls Tryz.prog 157 #[.slice A Z.length k] w (Rt (.bool true) (Au w)):=by
 have p:=Lh fun W (d:Au w W) z (l:z∈Z)=>Ku z.c z.A z.k W (f z l) ((h.AB d).s z l)
 have q:=Lh h;have r:decide ((Z.length:Int) > 8)=false:=by rw[Ag];omega
 have t:decide ((8:Int)<(Z.length:Int))=false:=by rw[Ag];omega
 clear f h;go_in;go_wp2_with fail;clear r t;go_loopg [10] Z.length fun gk x wr=>∃ a:Nat,a+gk=Z.length/\x=zI a/\Hid (Au w wr)
 case atStart=>exact⟨0,by omega,rfl,Lh (Aa _ _)⟩
 case round =>
  obtain⟨a,K,rfl,d⟩:=hrel;by_cases n:a<Z.length
  ·obtain⟨c,e,rfl,J,b⟩:=(q.out.AB d.out).cells n;obtain⟨z,f⟩:∃ z,z=Z[a]:=⟨_,rfl⟩
   have v:z∈Z:=by rw[f];exact Br n
   rw[<- f] at b;have M:(0:Int)<=(a:Int):=by omega
   have y:(a:Int)<(Z.length:Int):=by omega
   have B:Cl wr c (e+a*7) (zI z.c.kind):=b 0 (by omega);have C:Cl wr c (e+a*7+1) (zU z.c.Aq):=b 1 (by omega);have D:Cl wr c (e+a*7+2) (.string z.c.Ad):=b 2 (by omega);have E:Cl wr c (e+a*7+3) (.slice z.A z.c.Bl.length z.k):=b 3 (by omega);have F:Cl wr c (e+a*7+4) (zI z.c.BX):=b 4 (by omega);have G:Cl wr c (e+a*7+5) (zI z.c.till):=b 5 (by omega);have H:Cl wr c (e+a*7+6) (zI z.c.AO):=b 6 (by omega);clear f b;have i:=Lh fun W (d:Au w W)=>p.out W d z v
   have m:Cu z.c z.A z.k=#[zI z.c.kind,zU z.c.Aq,.string z.c.Ad,.slice z.A z.c.Bl.length z.k,zI z.c.BX,zI z.c.till,zI z.c.AO]:=rfl;have j:Hid (AX (wr.alloc (.cells (Cu z.c z.A z.k) 31)) wr.heap.size 31 (Cu z.c z.A z.k)):=Lh (AX.new wr _ _);have g:=Lh (d.out.alloc (.cells (Cu z.c z.A z.k) 31));rw[m] at i j g;clear m;go_upto_region 6 with(fail)
   go_wp2_with (first
    |(refine AA rfl (.tmp 4) rfl rfl j.out Tryz.underlying31 rfl Cg ?_)
    |(go_at_call 111;refine(i.out _ g.out).mono ?_;rintro I N ⟨rfl,o⟩;have u:=Lh (g.out.to o);clear o))
   go_roundg (gk-1)
   case measure=>omega
   case rel=>exact⟨a+1,by omega,by go_num,u⟩
  ·have y:¬(a:Int)<(Z.length:Int):=by omega
   go_wp2;go_ret;exact⟨rfl,d.out⟩
theorem MV (a:Int) (w:Bc):Calls Tryz.prog 158 #[.agg #[zI a,zU 0,zO,zO,zO,zO,zO,zN,zO,zO,zE,zN]] w (Rt (.bool true) (Au w)):=by
 have d:Hid (∀ W,Calls Tryz.prog 197 #[.agg #[zI a,zU 0,zO,zO,zO,zO,zO,zN,zO,zO,zE,zN],.agg #[zI a,zU 0,zO,zO,zO,zO,zO,zN,zO,zO,zE,zN]] W (Rt (.bool true) (Au W))):=Lh fun W=>VU a W
 have b:Hid (AX (w.alloc (.cells #[zI a,zU 0,zO,zO,zO,zO,zO,zN,zO,zO,zE,zN] 104)) w.heap.size 104 #[zI a,zU 0,zO,zO,zO,zO,zO,zN,zO,zO,zE,zN]):=Lh (AX.new w _ _);have c:Hid (Au w (w.alloc (.cells #[zI a,zU 0,zO,zO,zO,zO,zO,zN,zO,zO,zE,zN] 104))):=Lh ((Aa _ w).alloc _);go_in;go_upto_region 1 with(fail)
 generalize w.alloc (.cells #[zI a,zU 0,zO,zO,zO,zO,zO,zN,zO,zO,zE,zN] 104)=g at b c ⊢;have i:=b.out.cell 0;go_wp2_with (first
  |(refine AA rfl (.tmp 1) rfl rfl b.out Tryz.underlying104 rfl BM ?_)
  |(go_at_call 197;refine(d.out _).mono ?_;rintro f h ⟨rfl,e⟩))
 go_ret;exact⟨rfl,c.out.to e⟩
theorem Ws (ch:Int) (A:Option Addr) (k:Nat) (Z:List Ed) (w:Bc) (i:Ey ch) (g:ch/8192=2) (m:∀ z∈Z,Cn z.c) (S:Z.length<=8) (h:Dt w A Z) :
  Calls Tryz.prog 115 #[.agg #[zI 1,zU ch,zO,zO,zO,zO,zO,zN,zO,zO,zE,.slice A Z.length k]] w (Rt (.bool true) (Au w)):=by
 have P:=Lh fun W=>NP ch W i g
 have O:=Lh fun W (R:Au w W)=>PO A k Z W m S (h.AB R)
 clear i g;clear m h;have N:=Lh fun W=>MV 1 W
 have d:Hid (Au w ((w.alloc (.cells #[zI 1,zU ch,zO,zO,zO,zO,zO,zN,zO,zO,zE,.slice A Z.length k] 104)).alloc (.cells #[zI 1,zU 0,zO,zO,zO,zO,zO,zN,zO,zO,zE,zN] 104))):=Lh (((Aa _ w).alloc _).alloc _);have b:Hid (AX ((w.alloc (.cells #[zI 1,zU ch,zO,zO,zO,zO,zO,zN,zO,zO,zE,.slice A Z.length k] 104)).alloc (.cells #[zI 1,zU 0,zO,zO,zO,zO,zO,zN,zO,zO,zE,zN] 104)) w.heap.size 104 #[zI 1,zU ch,zO,zO,zO,zO,zO,zN,zO,zO,zE,.slice A Z.length k]):=Lh ((AX.new w _ _).alloc _);have a:Hid (AX ((w.alloc (.cells #[zI 1,zU ch,zO,zO,zO,zO,zO,zN,zO,zO,zE,.slice A Z.length k] 104)).alloc (.cells #[zI 1,zU 0,zO,zO,zO,zO,zO,zN,zO,zO,zE,zN] 104)) (w.heap.size+1) 104 #[zI 1,zU 0,zO,zO,zO,zO,zO,zN,zO,zO,zE,zN]):=Lh (AX.at_ _ _ (by simp));go_in;go_upto_region 5 with(fail)
 obtain⟨T,j⟩:∃ e,e=w.heap.size:=⟨_,rfl⟩
 generalize (w.alloc (.cells #[zI 1,zU ch,zO,zO,zO,zO,zO,zN,zO,zO,zE,.slice A Z.length k] 104)).alloc (.cells #[zI 1,zU 0,zO,zO,zO,zO,zO,zN,zO,zO,zE,zN] 104)=U at b a d ⊢;rw[<- j] at b a ⊢;clear j;obtain⟨aa,l⟩:∃ e,e=T+1:=⟨_,rfl⟩
 rw[<- l] at a ⊢;clear l;have n:=b.out.cell 0;have o:=b.out.cell 1;have q:=b.out.cell 2;have r:=b.out.cell 3;have s:=b.out.cell 4;have t:=b.out.cell 5;have u:=b.out.cell 6;have v:=b.out.cell 7;have x:=b.out.cell 8;have y:=b.out.cell 9;have p:=b.out.cell 11;have B:=a.out.cell 0;have C:=a.out.cell 1;have F:=a.out.cell 2;have G:=a.out.cell 3;have H:=a.out.cell 4;have I:=a.out.cell 5;have J:=a.out.cell 6;have K:=a.out.cell 7;have L:=a.out.cell 8;have M:=a.out.cell 9;have D:=a.out.cell 10;have E:=a.out.cell 11;go_wp2_with (first
  |(go_at_call 156;refine(P.out _).mono ?_;rintro f Y ⟨rfl,rfl⟩)
  |(go_at_call 157;refine(O.out _ d.out).mono ?_;rintro f V ⟨rfl,c⟩;replace b:=Lh (b.out.Ab c id);replace a:=Lh (a.out.Ab c id);replace d:=Lh (d.out.to c);clear c;clear n o q r s t u v x y p B C F G H I J K L M D E;have n:=b.out.cell 0;have o:=b.out.cell 1;have q:=b.out.cell 2;have r:=b.out.cell 3;have s:=b.out.cell 4;have t:=b.out.cell 5;have u:=b.out.cell 6;have v:=b.out.cell 7;have x:=b.out.cell 8;have y:=b.out.cell 9;have p:=b.out.cell 11;have B:=a.out.cell 0;have C:=a.out.cell 1;have F:=a.out.cell 2;have G:=a.out.cell 3;have H:=a.out.cell 4;have I:=a.out.cell 5;have J:=a.out.cell 6;have K:=a.out.cell 7;have L:=a.out.cell 8;have M:=a.out.cell 9;have D:=a.out.cell 10;have E:=a.out.cell 11)
  |(refine AA rfl (.tmp 3) rfl rfl a.out Tryz.underlying104 rfl BM ?_)
  |(go_at_call 158;refine(N.out _).mono ?_;rintro f X ⟨rfl,c⟩;have Q:=Lh (d.out.to c);clear c))
 go_ret;exact⟨rfl,Q.out⟩
theorem U7 (A:Option Addr) (k:Nat) (Z:List Ed) (w:Bc) (i:∀ z∈Z,Cn z.c) (P:Z.length<=8) (f:Dt w A Z) :
  Calls Tryz.prog 115 #[.agg #[zI 5,zU 0,zO,zO,zO,zO,zO,zN,zO,zO,zE,.slice A Z.length k]] w (Rt (.bool true) (Au w)):=by
 have L:=Lh fun W (O:Au w W)=>PO A k Z W i P (f.AB O)
 clear i f;have K:=Lh fun W=>MV 5 W
 have d:Hid (Au w ((w.alloc (.cells #[zI 5,zU 0,zO,zO,zO,zO,zO,zN,zO,zO,zE,.slice A Z.length k] 104)).alloc (.cells #[zI 5,zU 0,zO,zO,zO,zO,zO,zN,zO,zO,zE,zN] 104))):=Lh (((Aa _ w).alloc _).alloc _);have b:Hid (AX ((w.alloc (.cells #[zI 5,zU 0,zO,zO,zO,zO,zO,zN,zO,zO,zE,.slice A Z.length k] 104)).alloc (.cells #[zI 5,zU 0,zO,zO,zO,zO,zO,zN,zO,zO,zE,zN] 104)) w.heap.size 104 #[zI 5,zU 0,zO,zO,zO,zO,zO,zN,zO,zO,zE,.slice A Z.length k]):=Lh ((AX.new w _ _).alloc _);have a:Hid (AX ((w.alloc (.cells #[zI 5,zU 0,zO,zO,zO,zO,zO,zN,zO,zO,zE,.slice A Z.length k] 104)).alloc (.cells #[zI 5,zU 0,zO,zO,zO,zO,zO,zN,zO,zO,zE,zN] 104)) (w.heap.size+1) 104 #[zI 5,zU 0,zO,zO,zO,zO,zO,zN,zO,zO,zE,zN]):=Lh (AX.at_ _ _ (by simp));go_in;go_upto_region 17 with(fail)
 obtain⟨Q,g⟩:∃ e,e=w.heap.size:=⟨_,rfl⟩
 generalize (w.alloc (.cells #[zI 5,zU 0,zO,zO,zO,zO,zO,zN,zO,zO,zE,.slice A Z.length k] 104)).alloc (.cells #[zI 5,zU 0,zO,zO,zO,zO,zO,zN,zO,zO,zE,zN] 104)=R at b a d ⊢;rw[<- g] at b a ⊢;clear g;obtain⟨U,h⟩:∃ e,e=Q+1:=⟨_,rfl⟩
 rw[<- h] at a ⊢;clear h;have j:=b.out.cell 0;have l:=b.out.cell 1;have n:=b.out.cell 2;have o:=b.out.cell 3;have p:=b.out.cell 4;have q:=b.out.cell 5;have r:=b.out.cell 6;have s:=b.out.cell 7;have t:=b.out.cell 8;have u:=b.out.cell 9;have m:=b.out.cell 11;have v:=a.out.cell 0;have x:=a.out.cell 1;have C:=a.out.cell 2;have D:=a.out.cell 3;have E:=a.out.cell 4;have F:=a.out.cell 5;have G:=a.out.cell 6;have H:=a.out.cell 7;have I:=a.out.cell 8;have J:=a.out.cell 9;have y:=a.out.cell 10;have B:=a.out.cell 11;go_wp2_with (first
  |(go_at_call 157;refine(L.out _ d.out).mono ?_;rintro N S ⟨rfl,c⟩;replace b:=Lh (b.out.Ab c id);replace a:=Lh (a.out.Ab c id);replace d:=Lh (d.out.to c);clear c;clear j l n o p q r s t u m v x C D E F G H I J y B;have j:=b.out.cell 0;have l:=b.out.cell 1;have n:=b.out.cell 2;have o:=b.out.cell 3;have p:=b.out.cell 4;have q:=b.out.cell 5;have r:=b.out.cell 6;have s:=b.out.cell 7;have t:=b.out.cell 8;have u:=b.out.cell 9;have m:=b.out.cell 11;have v:=a.out.cell 0;have x:=a.out.cell 1;have C:=a.out.cell 2;have D:=a.out.cell 3;have E:=a.out.cell 4;have F:=a.out.cell 5;have G:=a.out.cell 6;have H:=a.out.cell 7;have I:=a.out.cell 8;have J:=a.out.cell 9;have y:=a.out.cell 10;have B:=a.out.cell 11)
  |(refine AA rfl (.tmp 3) rfl rfl a.out Tryz.underlying104 rfl BM ?_)
  |(go_at_call 158;refine(K.out _).mono ?_;rintro N T ⟨rfl,c⟩;have M:=Lh (d.out.to c);clear c))
 go_ret;exact⟨rfl,M.out⟩
theorem Wq (ch seq op arg:Int) (w:Bc) (h:Ey ch) (g:ch/8192=2) (N:0<=seq) (hs1:seq<=1000) (ha:G8 op arg) :
  Calls Tryz.prog 115 #[.agg #[zI 2,zU ch,zI seq,zO,zI op,zI arg,zO,zN,zO,zO,zE,zN]] w (Rt (.bool true) (Au w)):=by
 have K:=Lh fun W=>NP ch W h g
 have L:=Lh fun W=>PV seq W N (by omega)
 have I:Hid (∀ W,Calls Tryz.prog 100 #[.agg #[zO,zI op,zI arg,zO,zN]] W (Rt (.bool true) (Au W))):=Lh fun W=>MS op arg W ha
 clear h g;clear ha;have J:=Lh fun W=>MV 2 W
 have d:Hid (Au w ((w.alloc (.cells #[zI 2,zU ch,zI seq,zO,zI op,zI arg,zO,zN,zO,zO,zE,zN] 104)).alloc (.cells #[zI 2,zU 0,zO,zO,zO,zO,zO,zN,zO,zO,zE,zN] 104))):=Lh (((Aa _ w).alloc _).alloc _);have b:Hid (AX ((w.alloc (.cells #[zI 2,zU ch,zI seq,zO,zI op,zI arg,zO,zN,zO,zO,zE,zN] 104)).alloc (.cells #[zI 2,zU 0,zO,zO,zO,zO,zO,zN,zO,zO,zE,zN] 104)) w.heap.size 104 #[zI 2,zU ch,zI seq,zO,zI op,zI arg,zO,zN,zO,zO,zE,zN]):=Lh ((AX.new w _ _).alloc _);have a:Hid (AX ((w.alloc (.cells #[zI 2,zU ch,zI seq,zO,zI op,zI arg,zO,zN,zO,zO,zE,zN] 104)).alloc (.cells #[zI 2,zU 0,zO,zO,zO,zO,zO,zN,zO,zO,zE,zN] 104)) (w.heap.size+1) 104 #[zI 2,zU 0,zO,zO,zO,zO,zO,zN,zO,zO,zE,zN]):=Lh (AX.at_ _ _ (by simp));go_in;go_upto_region 8 with(fail)
 obtain⟨P,i⟩:∃ f,f=w.heap.size:=⟨_,rfl⟩
 generalize (w.alloc (.cells #[zI 2,zU ch,zI seq,zO,zI op,zI arg,zO,zN,zO,zO,zE,zN] 104)).alloc (.cells #[zI 2,zU 0,zO,zO,zO,zO,zO,zN,zO,zO,zE,zN] 104)=Q at b a d ⊢;rw[<- i] at b a ⊢;clear i;obtain⟨T,j⟩:∃ f,f=P+1:=⟨_,rfl⟩
 rw[<- j] at a ⊢;clear j;have k:=b.out.cell 0;have l:=b.out.cell 1;have n:=b.out.cell 2;have o:=b.out.cell 3;have p:=b.out.cell 4;have q:=b.out.cell 5;have r:=b.out.cell 6;have s:=b.out.cell 7;have t:=b.out.cell 8;have u:=b.out.cell 9;have m:=b.out.cell 11;have v:=a.out.cell 0;have x:=a.out.cell 1;have A:=a.out.cell 2;have B:=a.out.cell 3;have C:=a.out.cell 4;have D:=a.out.cell 5;have E:=a.out.cell 6;have F:=a.out.cell 7;have G:=a.out.cell 8;have H:=a.out.cell 9;have y:=a.out.cell 10;have z:=a.out.cell 11;go_wp2_with (first
  |(go_at_call 156;refine(K.out _).mono ?_;rintro e O ⟨rfl,rfl⟩)
  |(go_at_call 159;refine(L.out _).mono ?_;rintro e O ⟨rfl,rfl⟩)
  |(go_at_call 100;refine(I.out _).mono ?_;rintro e R ⟨rfl,c⟩;replace b:=Lh (b.out.Ab c id);replace a:=Lh (a.out.Ab c id);replace d:=Lh (d.out.to c);clear c;clear k l n o p q r s t u m v x A B C D E F G H y z;have k:=b.out.cell 0;have l:=b.out.cell 1;have n:=b.out.cell 2;have o:=b.out.cell 3;have p:=b.out.cell 4;have q:=b.out.cell 5;have r:=b.out.cell 6;have s:=b.out.cell 7;have t:=b.out.cell 8;have u:=b.out.cell 9;have m:=b.out.cell 11;have v:=a.out.cell 0;have x:=a.out.cell 1;have A:=a.out.cell 2;have B:=a.out.cell 3;have C:=a.out.cell 4;have D:=a.out.cell 5;have E:=a.out.cell 6;have F:=a.out.cell 7;have G:=a.out.cell 8;have H:=a.out.cell 9;have y:=a.out.cell 10;have z:=a.out.cell 11)
  |(refine AA rfl (.tmp 3) rfl rfl a.out Tryz.underlying104 rfl BM ?_)
  |(go_at_call 158;refine(J.out _).mono ?_;rintro e S ⟨rfl,c⟩;have M:=Lh (d.out.to c);clear c))
 go_ret;exact⟨rfl,M.out⟩
theorem U8 (ch seq er v:Int) (w:Bc) (h:Ey ch) (f:ch/8192=2) (s:0<=seq) (hs1:seq<=1000) (q:0<=er) (r:er<=100) (t:0<=v) (z:v<=1000000) :
  Calls Tryz.prog 115 #[.agg #[zI 3,zU ch,zI seq,zO,zO,zO,zO,zN,zI er,zI v,zE,zN]] w (Rt (.bool true) (Au w)):=by
 have m:=Lh fun W=>NP ch W h f
 have n:=Lh fun W=>PV seq W s (by omega)
 have o:=Lh fun W=>PV v W t (by omega)
 have x:decide (0<=er)=true:=by simpa using q
 have y:decide (er<=100)=true:=by simpa using r
 clear h f;have l:=Lh fun W=>MV 3 W
 have e:Hid (Au w ((w.alloc (.cells #[zI 3,zU ch,zI seq,zO,zO,zO,zO,zN,zI er,zI v,zE,zN] 104)).alloc (.cells #[zI 3,zU 0,zO,zO,zO,zO,zO,zN,zO,zO,zE,zN] 104))):=Lh (((Aa _ w).alloc _).alloc _);have b:Hid (AX ((w.alloc (.cells #[zI 3,zU ch,zI seq,zO,zO,zO,zO,zN,zI er,zI v,zE,zN] 104)).alloc (.cells #[zI 3,zU 0,zO,zO,zO,zO,zO,zN,zO,zO,zE,zN] 104)) w.heap.size 104 #[zI 3,zU ch,zI seq,zO,zO,zO,zO,zN,zI er,zI v,zE,zN]):=Lh ((AX.new w _ _).alloc _);have a:Hid (AX ((w.alloc (.cells #[zI 3,zU ch,zI seq,zO,zO,zO,zO,zN,zI er,zI v,zE,zN] 104)).alloc (.cells #[zI 3,zU 0,zO,zO,zO,zO,zO,zN,zO,zO,zE,zN] 104)) (w.heap.size+1) 104 #[zI 3,zU 0,zO,zO,zO,zO,zO,zN,zO,zO,zE,zN]):=Lh (AX.at_ _ _ (by simp));go_in;go_upto_region 11 with(fail)
 obtain⟨u,i⟩:∃ d,d=w.heap.size:=⟨_,rfl⟩
 generalize (w.alloc (.cells #[zI 3,zU ch,zI seq,zO,zO,zO,zO,zN,zI er,zI v,zE,zN] 104)).alloc (.cells #[zI 3,zU 0,zO,zO,zO,zO,zO,zN,zO,zO,zE,zN] 104)=A at b a e ⊢;rw[<- i] at b a ⊢;clear i;obtain⟨aa,j⟩:∃ d,d=u+1:=⟨_,rfl⟩
 rw[<- j] at a ⊢;clear j;have C:=b.out.cell 0;have D:=b.out.cell 1;have F:=b.out.cell 2;have G:=b.out.cell 3;have H:=b.out.cell 4;have I:=b.out.cell 5;have J:=b.out.cell 6;have K:=b.out.cell 7;have L:=b.out.cell 8;have M:=b.out.cell 9;have E:=b.out.cell 11;have N:=a.out.cell 0;have O:=a.out.cell 1;have R:=a.out.cell 2;have S:=a.out.cell 3;have T:=a.out.cell 4;have U:=a.out.cell 5;have V:=a.out.cell 6;have X:=a.out.cell 7;have Y:=a.out.cell 8;have Z:=a.out.cell 9;have P:=a.out.cell 10;have Q:=a.out.cell 11;go_wp2_with (first
  |(go_at_call 156;(with_reducible refine(m.out _).mono ?_);rintro c k ⟨rfl,rfl⟩)
  |(go_at_call 159;(with_reducible refine(n.out _).mono ?_);rintro c k ⟨rfl,rfl⟩)
  |(go_at_call 159;(with_reducible refine(o.out _).mono ?_);rintro c k ⟨rfl,rfl⟩)
  |(refine AA rfl (.tmp 3) rfl rfl a.out Tryz.underlying104 rfl BM ?_)
  |(go_at_call 158;(with_reducible refine(l.out _).mono ?_);rintro c B ⟨rfl,g⟩;have p:=Lh (e.out.to g);clear g))
 go_ret;exact⟨rfl,p.out⟩
end

def Gq (L:List Ca):List UInt8:=BL L.length++L.flatMap fun a=>IW (Dy (Db a))
def Hm (ch:Int) (L:List Ca):List UInt8:=BL 1++(BL ch.toNat++Gq L)
def Gp (L:List Ca):List UInt8:=BL 5++Gq L
def F8 (ch seq op arg:Int):List UInt8:=BL 2++(BL ch.toNat++(BL seq.toNat++(BL 0++(BL op.toNat++BL arg.toNat))))
def Fg (ch seq er v:Int):List UInt8:=BL 3++(BL ch.toNat++(BL seq.toNat++(BL er.toNat++BL v.toNat)))
theorem JE {c:Ca} (a:Cn c):(Db c).length<=370:=by
 obtain⟨_,b,_⟩:=Cm a.set;have d:(BL c.kind.toNat).length<=9:=BS (by have:=a.k7;omega);have e:(BL c.Aq.toNat).length<=9:=BS (by have:=a.su.2;omega);have f:=Q6 a.sp;have g:=OW a.fo b;have h:(BL c.BX.toNat).length<=9:=BS (by have:=a.ft;have:=a.tm;omega);have i:(BL (c.till-c.BX).toNat).length<=9:=BS (by have:=a.f0;have:=a.tm;omega);have j:(BL c.AO.toNat).length<=9:=BS (by have:=a.sm;omega);unfold Db;simp only[Ap];omega
theorem dR {c:Ca} (a:Cn c):(IW (Dy (Db c))).length<=380:=by
 have d:=JE a;have e:=BS (n:=(Dy (Db c)).size) (by rw[E5];omega);have b:(Dy (Db c)).data.toList=Db c:=Nn _;unfold IW;rw[Ap,b];omega
theorem JF:∀ {L:List Ca},(∀ c∈L,Cn c)->(L.flatMap fun c=>IW (Dy (Db c))).length<=380*L.length
 |[],_=>by simp
 |c::L,a=>by
  have d:=JF (L:=L) fun b hx=>a b (Dn _ hx)
  have e:=dR (a c (by simp));rw[CY,Ap,BF];omega
section
variable {w w' W w0:Bc} {base o:Nat} {bs:List UInt8}
theorem Q5 (e:BK w base o bs) (A:Option Addr) (k:Nat) (Z:List Ed) (ar:bs.length<=100) (j:∀ z∈Z,Cn z.c) (O:Z.length<=8) (C:Dt w0 A Z) (h:Au w0 w) (au:w0.heap.size<=base) :
  Calls Tryz.prog 160 #[zP o,.func (.func 71) #[zP o] #[],.slice A Z.length k] w (Rt (.tuple #[]) fun w'=>BK w' base o (bs++Gq (Z.map (·.c)))/\Am (BO base o w) w w'):=by
 have R:=Lh fun W (h:Au w0 W) z (p:z∈Z)=>Ja z.c z.A z.k W (j z p) ((C.AB h).s z p)
 have D:Hid (Calls Tryz.prog 71 #[zP o,zI (Z.length:Int)] w (Rt (.tuple #[]) fun w'=>BK w' base o (bs++BL Z.length)/\Am (BO base o w) w w')):=by
  have:=El e (Z.length:Int) (by omega) (by omega) (by omega)
  rwa [Int.toNat_natCast] at this
 have ax:=BS (n:=Z.length) (by omega);have S:=Lh fun W H (e:BK W base o H) z (p:z∈Z) (O:H.length<=100000)=>Yk e (Dy (Db z.c)) (by rw[E5];have:=JE (j z p);omega) O
 have ae:=Lh j;have aa:=Lh C;have U:=Lh e.ge;have V:=Lh h;clear j C e h;go_in;go_wp2_with (go_at_call 71;refine D.out.mono ?_;rintro I az ⟨rfl,l,bd⟩;have F:=Lh l;have G:=Lh bd;clear l bd);go_loopg [16] Z.length fun gk i wr=>∃ a:Nat,a+gk=Z.length/\i=zI a/\Hid (BK wr base o (bs++BL Z.length++((Z.take a).map (·.c)).flatMap fun d=>IW (Dy (Db d))))/\Hid (Am (BO base o w) w wr)
 case atStart=>exact⟨0,by omega,rfl,Lh (by rw[Ei,FR,List.flatMap_nil,Dc];exact F.out),G⟩
 case round =>
  clear F G D;obtain⟨a,aw,rfl,l,bd⟩:=hrel;have J:Au w0 wr:=V.out.AJ bd.out fun k m af=>by have:=BO.ge U.out af;omega
  by_cases B:a<Z.length
  ·obtain⟨f,g,rfl,av,b⟩:=(aa.out.AB J).cells B;obtain⟨z,q⟩:∃ z,z=Z[a]:=⟨_,rfl⟩
   have Q:z∈Z:=by rw[q];exact Br B
   have ab:Hid (((Z.take (a+1)).map (·.c)).flatMap (fun d=>IW (Dy (Db d)))=((Z.take a).map (·.c)).flatMap (fun d=>IW (Dy (Db d)))++IW (Dy (Db z.c))):=Lh (by
    rw[AP B,<- q];simp only[Bw,Dm,FR,Fw,CY,List.flatMap_nil,Dc])
   rw[<- q] at b;have P:(bs++BL Z.length++((Z.take a).map (·.c)).flatMap fun d=>IW (Dy (Db d))).length<=100000:=by
    have x:=JF (L:=(Z.take a).map (·.c)) (by
     intro d b;obtain⟨z,j,rfl⟩:=Bp.1 b;exact ae.out z (FP j))
    have aq:((Z.take a).map (·.c)).length<=8:=by rw[Be,BA];omega
    simp only[Ap];omega
   have ay:(0:Int)<=(a:Int):=by omega
   have ai:(a:Int)<(Z.length:Int):=by omega
   have aj:Cl wr f (g+a*7) (zI z.c.kind):=b 0 (by omega);have ak:Cl wr f (g+a*7+1) (zU z.c.Aq):=b 1 (by omega);have al:Cl wr f (g+a*7+2) (.string z.c.Ad):=b 2 (by omega);have am:Cl wr f (g+a*7+3) (.slice z.A z.c.Bl.length z.k):=b 3 (by omega);have an:Cl wr f (g+a*7+4) (zI z.c.BX):=b 4 (by omega);have ao:Cl wr f (g+a*7+5) (zI z.c.till):=b 5 (by omega);have ap:Cl wr f (g+a*7+6) (zI z.c.AO):=b 6 (by omega);clear q b;have E:=Lh fun W (h:Au w0 W)=>R.out W h z Q
   have T:=Lh fun W (e:BK W base o (bs++BL Z.length++((Z.take a).map (·.c)).flatMap fun d=>IW (Dy (Db d))))=>S.out W _ e z Q P
   have N:Cu z.c z.A z.k=#[zI z.c.kind,zU z.c.Aq,.string z.c.Ad,.slice z.A z.c.Bl.length z.k,zI z.c.BX,zI z.c.till,zI z.c.AO]:=rfl;have v:Hid (AX (wr.alloc (.cells (Cu z.c z.A z.k) 31)) wr.heap.size 31 (Cu z.c z.A z.k)):=Lh (AX.new wr _ _);have y:Au wr (wr.alloc (.cells (Cu z.c z.A z.k) 31)):=(Aa _ wr).alloc _;have r:=Lh (J.to y);have t:=Lh (l.out.AB y);have u:=Lh (bd.out.alloc (.cells (Cu z.c z.A z.k) 31));rw[N] at E v r t u;clear N y P;go_upto_region 4 with(fail)
   generalize wr.alloc (.cells #[zI z.c.kind,zU z.c.Aq,.string z.c.Ad,.slice z.A z.c.Bl.length z.k,zI z.c.BX,zI z.c.till,zI z.c.AO] 31)=ba at v r t u ⊢;go_wp2_with (first
    |(refine AA rfl (.tmp 7) rfl rfl v.out Tryz.underlying31 rfl Cg ?_)
    |(go_at_call 60;refine(E.out _ r.out).mono ?_;rintro I bb ⟨rfl,m⟩;have X:=Lh (t.out.AB m);have ac:=Lh (u.out.AJ m fun _ _ e=>e.elim);clear m)
    |(go_at_call 198;refine(T.out _ X.out).mono ?_;rintro I bc ⟨rfl,K,M⟩;have Y:=Lh K;have ad:=Lh (BO.AJ ac.out M);clear K M))
   go_roundg (gk-1)
   case measure=>omega
   case rel=>exact⟨a+1,by omega,by go_num,Lh (by rw[ab.out,<- BJ];exact Y.out),ad⟩
  ·have ag:a=Z.length:=by omega
   subst ag;have ai:¬(Z.length:Int)<(Z.length:Int):=by omega
   go_wp2;go_end0;refine⟨rfl,?_,bd.out⟩;have x:=l.out;rw[Cr,BJ] at x;unfold Gq;rw[Be];exact x
end

end Go.Proofs.YtcjcndnjpedniaaGreat
