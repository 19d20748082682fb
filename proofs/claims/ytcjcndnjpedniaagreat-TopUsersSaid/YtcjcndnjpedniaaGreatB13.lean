/- A part of the proof of TopUsers. -/
import Derived.LoopN
import Derived.Test.YtcjcndnjpedniaaGreatB12
namespace Go.Proofs.YtcjcndnjpedniaaGreat
set_option linter.all false
set_option maxRecDepth 100000
set_option maxHeartbeats 8000000
open Go.RowKit
section
variable {w w' W:Bc}
theorem Zr (f:Value) (w:Bc):Calls Tryz.prog 233 #[zN,f] w (Rt (zI (-1)) fun w'=>w=w'):=by
 go_in;go_wp2;go_loopg [8] 0 fun gk a wr=>a=zO/\w=wr
 case atStart=>exact⟨rfl,rfl⟩
 case round =>
  obtain⟨rfl,rfl⟩:=hrel;go_wp2;go_ret;exact⟨rfl,rfl⟩
theorem Xm (p:Nat) (v op:Int) (x:Value) (w:Bc) (a:AX w p 277 #[zN,zI v]) :
  Calls Tryz.prog 200 #[zP p,.agg #[zI op,x]] w (Rt (zI (-1)) (Au w)):=by
 have g:Cl w p 0 (zN):=a.cell 0;have f:=a.lt;have b:=Lh fun d W=>Zr d W
 have c:Hid (Au w (w.alloc (.cells #[zI op,x] 40))):=Lh ((Aa _ w).alloc _);clear a;go_in;go_wp2_with (go_at_call 233;refine(b.out _ _).mono ?_;rintro e h ⟨rfl,rfl⟩);go_ret;exact⟨rfl,c.out⟩
def Pb (f w:Bc) (p:Nat) (v op:Int) (a:List BB):Prop :=
 ∃ d c b e,AX w p 277 #[zS d 0 1 c,zI v]/\w.ownsRow f.heap.size 40 2 (zS d 0 1 c) 1 [zI op,.slice b a.length e]/\w.ownsRow f.heap.size 27 1 (.slice b a.length e) a.length (a.map Value.string)
theorem Zn (p:Nat) (v op:Int) (f:Addr) (k:Nat) (b:List BB) (w:Bc) (G:AX w p 277 #[zN,zI v]) (ah:0<=op) (ai:op<8) (U:D9 b=true) (T:Ay Value.string w w.heap.size 1 (some f) b) (ba:0<=v) (bb:v<=100) :
  Calls Tryz.prog 164 #[zP p,.agg #[zI op,.slice (some f) b.length k]] w (Rt zO fun w'=>Pb w w' p (v+1) op b/\Am (fun q=>q=p) w w'):=by
 obtain⟨ar,am,ao,ap,aq⟩:=info_parts M7;have bc:=(Cm U).2.1;have Z:=Lh fun W (a:Au w W)=>Zt op (some f) k b W ah ai U (T.AB a)
 have Y:=Lh fun W (G:AX W p 277 #[zN,zI v])=>Xm p v op (.slice (some f) b.length k) W G
 have X:=fun W (a:Au w W)=>Vn op f k b W (by omega) (T.AB a)
 have C:Hid (AX (w.alloc (.cells #[zI op,.slice (some f) b.length k] 40)) w.heap.size 40 #[zI op,.slice (some f) b.length k]):=Lh (AX.new w _ _);have I:Hid (Au w (w.alloc (.cells #[zI op,.slice (some f) b.length k] 40))):=Lh ((Aa _ w).alloc _);have J:=Lh (G.alloc (.cells #[zI op,.slice (some f) b.length k] 40));clear G U T;go_in;go_upto_region 1 with(fail)
 obtain⟨ag,R⟩:∃ y,y=w.heap.size:=⟨_,rfl⟩
 generalize w.alloc (.cells #[zI op,.slice (some f) b.length k] 40)=aw at C I J ⊢;rw[<- R] at C ⊢;have ax:=Lh R;clear R;have H:Cl aw p 0 (zN):=J.out.cell 0;go_upto_region 8 with(first
  |(refine AA rfl (.tmp 3) rfl rfl C.out Tryz.underlying40 rfl Fp ?_)
  |(refine AA rfl (.tmp 3) rfl rfl x.out Tryz.underlying40 rfl Fp ?_)
  |(go_at_call 199;refine(Z.out _ I.out).mono ?_;rintro D bd ⟨rfl,i⟩;have x:=Lh (C.out.Ab i id);have u:=Lh (J.out.Ab i id);have n:=Lh (I.out.to i);clear i H)
  |(go_at_call 200;refine(Y.out _ u.out).mono ?_;rintro D V ⟨rfl,i⟩;replace x:=Lh (x.out.Ab i id);replace u:=Lh (u.out.Ab i id);replace n:=Lh (n.out.to i);clear i))
 have ae:=Lh fun W (a:Au V W)=>X W (n.out.to a)
 have H:Cl V p 0 (zN):=u.out.cell 0;clear X Z Y;refine EQ 14 (S:=fun W=>Cl W p 0 (zN)/\AX W ag 40 #[zI op,.slice (some f) b.length k]) (by kernel_rfl) ⟨H,x.out.drew⟩ fun d=>?_
 refine zq 0 23 d ?_;refine zq 1 24 d ?_;refine zq 2 25 d ?_;refine zq 3 26 d ?_;refine zq 4 27 d ?_;refine zq 5 28 d ?_;refine zq 6 29 d ?_;refine zq 7 30 d ?_;refine zq 8 31 (hx:=fun W ak=>Ce (.tmp 3) rfl rfl ak.2 Tryz.underlying40 rfl Fp) d ?_;refine I7 9 (by kernel_rfl) rfl fun e a=>?_
 go_simp;go_at_call 201;refine(ae.out _ (by exact(Aa _ _).drew)).mono ?_;rintro D r ⟨s,A,rfl,ac,aj⟩;have F:=((T0 V).drew).to aj;have N:=Lh (x.out.Ab F id);have K:=Lh (u.out.Ab F id);go_wp2;refine a.out _ _ ⟨K.out.cell 0,N.out⟩ fun d=>?_
 clear a e;refine I7 10 (by kernel_rfl) rfl fun e a=>?_
 go_simp;refine a.out _ _ ⟨(K.out.alloc _).cell 0,N.out.alloc _⟩ fun d=>?_
 clear a e;refine I7 11 (by kernel_rfl) rfl fun e a=>?_
 rw[AQ (by rfl)];refine wp_append_lies _ (.tmp 30) (.tmp 33) 41 rfl r.heap.size 40 ar _ 2 32 Tryz.underlying41 am ao ap aq rfl (by omega) (zN) 0 [] rfl (World.ownsRow_nil _ _ _ _) (zA r.heap.size 0) 1 1 [zI op,.slice s b.length A] rfl rfl (World.news_of_block (cs:=#[zI op,.slice s b.length A]) (t:=40) (fr:=(0,0)) (heap_alloc_new r _)) (by simp[Value.oneCell']) (by omega) (by unfold maxLen;omega) (by omega) (by simp) (r.heap.size+1) (by simp) ?_;intro h g j P ad al an;rw[Ga 34 (by rfl)];dsimp only[Act.put,AZ,Bq,Bi];have E:Au r j:=((T0 r).alloc _).grown ad fun q D=>by cases D
 have O:=Lh (N.out.Ab E id);have l:=Lh (K.out.Ab E id);refine a.out _ _ ⟨l.out.cell 0,O.out⟩ fun d=>?_
 clear a e;refine I7 12 (by kernel_rfl) rfl fun e a=>?_
 go_simp;refine a.out _ _ ⟨l.out.cell 0,O.out⟩ fun d=>?_
 clear a e;refine I7 13 (by kernel_rfl) rfl fun e a=>?_
 go_simp;refine a.out _ _ ⟨l.out.cell 0,O.out⟩ fun d=>?_
 clear a e;refine zl fun e a=>?_
 have au:Cl j p 0 (zN):=l.out.cell 0;have av:=l.out.frozen 0;go_simp;refine a.out _ _ ?_;clear a e;refine zd ?_;have o:Hid (AX (j.setCell (zA p 0) (zS h 0 1 g)) p 277 #[zS h 0 1 g,zI v]):=Lh (l.out.Dw 0 (zS h 0 1 g));have z:Am (fun q=>q=p) j (j.setCell (zA p 0) (zS h 0 1 g)):=(Aa (fun q=>q=p) j).setCell (p:=zA p 0) (fun _=>rfl) _;have L:Hid ((j.setCell (zA p 0) (zS h 0 1 g)).ownsRow w.heap.size 40 2 (zS h 0 1 g) 1 [zI op,.slice s b.length A]):=Lh (Du (Aj P z fun y m c=>Ba P l.out (by decide) (by rw[<- c];exact m)) (by have:=n.out.size;have:=F.size;omega));have M:Hid ((j.setCell (zA p 0) (zS h 0 1 g)).ownsRow w.heap.size 27 1 (.slice s b.length A) b.length (b.map Value.string)):=Lh (by
  have ab:=Aj ac E fun _ _ c=>c
  exact Du (Aj ab z fun y m c=>Ba ab l.out (by decide) (by rw[<- c];exact m)) (by have:=n.out.size;exact this))
 have aa:=Lh (((n.out.to (F.to E)).mono fun _ _ c=>c.elim).AJ z fun k _ c=>c);generalize j.setCell (zA p 0) (zS h 0 1 g)=B at o z L M aa ⊢;have ay:Cl B p 1 (zI v):=o.out.cell 1;have az:=o.out.frozen 1;have af:Hid (AX (B.setCell (zA p 1) (zI (v+1))) p 277 #[zS h 0 1 g,zI (v+1)]):=Lh (o.out.Dw 1 (zI (v+1)));have Q:Hid (Am (fun q=>q=p) B (B.setCell (zA p 1) (zI (v+1)))):=Lh ((Aa (fun q=>q=p) B).setCell (p:=zA p 1) (fun _=>rfl) _);clear z au av al ad an P ac H;go_wp2;go_ret;exact⟨rfl,⟨h,g,s,A,af.out,Aj L.out Q.out fun y m c=>Ba L.out o.out (by decide) (by rw[<- c];exact m),Aj M.out Q.out fun y m c=>Ba M.out o.out (by decide) (by rw[<- c];exact m)⟩,aa.out.AJ Q.out fun _ _ c=>c⟩
def nN (w:Bc) (op:Int) (b:List BB) (e:Ending) (w':Bc):Prop:=∃ a,e= .returned (.tuple #[zP a,zO])/\Pb w w' a 0 op b/\w.heap.size<=a/\Au w w'
theorem Tc (ag h:Nat) (c:Nat) (op:Int) (d:Addr) (k:Nat) (b:List BB) (w:Bc) (V:0<=op) (X:op<8) (L:D9 b=true) (K:Ay Value.string w w.heap.size 1 (some d) b) (H:ag<w.heap.size) (I:Cl w ag h (zI op)) (J:Cl w ag (h+1) (.slice (some d) b.length k)) :
  Calls Tryz.prog 119 #[zS ag h 1 c] w (nN w op b):=by
 have A:=Lh fun W a (Z:AX W a 277 #[zN,zO]) (r:Au w W)=>Zn a 0 op d k b W Z V X L (K.AB r) (by omega) (by omega)
 have n:Hid (AX (w.alloc (.cells #[zN,zO] 277)) w.heap.size 277 #[zN,zO]):=Lh (AX.new w _ _);have t:Hid (Au w (w.alloc (.cells #[zN,zO] 277))):=Lh ((Aa _ w).alloc _);have P:=Lh I;have Q:=Lh J;clear L K I J;go_in;go_wp2_with fail;obtain⟨a,y⟩:∃ a,a=w.heap.size:=⟨_,rfl⟩
 generalize w.alloc (.cells #[zN,zO] 277)=ae at n t ⊢;rw[<- y] at n ⊢;have u:=Lh y;clear y;go_loopg [12] 1 fun gk M wr=>(gk=1/\M=zO/\Hid (AX wr a 277 #[zN,zO]/\Au w wr))∨(gk=0/\M=zI 1/\Hid (Pb w wr a 1 op b/\Au w wr))
 case atStart=>exact .inl ⟨rfl,rfl,Lh ⟨n.out,t.out⟩⟩
 case round =>
  clear n t;rcases hrel with⟨rfl,rfl,g⟩|⟨rfl,rfl,g⟩
  ·have ac:Cl wr ag h (zI op):=(g.out.2.cell (p:=zA ag h) H id).trans P.out;have U:Cl wr ag (h+1) (.slice (some d) b.length k):=(g.out.2.cell (p:=zA ag (h+1)) H id).trans Q.out;have G:Hid (AX (wr.alloc (.cells #[zI op,.slice (some d) b.length k] 40)) wr.heap.size 40 #[zI op,.slice (some d) b.length k]):=Lh (AX.new wr _ _);have E:=Lh (g.out.1.alloc (.cells #[zI op,.slice (some d) b.length k] 40));have l:=Lh (g.out.2.alloc (.cells #[zI op,.slice (some d) b.length k] 40));go_upto_region 5 with(fail)
   generalize wr.alloc (.cells #[zI op,.slice (some d) b.length k] 40)=aa at G E l ⊢;have N:=Lh (A.out aa a E.out l.out);go_wp2_with (first
    |(refine AA rfl (.tmp 6) rfl rfl G.out Tryz.underlying40 rfl Fp ?_)
    |(go_at_call 164;refine N.out.mono ?_;rintro e af ⟨rfl,hA3,F⟩;have O:=Lh hA3;have T:=Lh F;clear hA3 F))
   go_roundg 0
   case measure=>omega
   case rel =>
    refine .inr ⟨rfl,rfl,Lh ⟨?_,l.out.AJ T.out fun m hq j=>by have:=u.out;omega⟩⟩;obtain⟨i,o,s,z,f,p,q⟩:=O.out;exact⟨i,o,s,z,f,Du p l.out.size,Du q l.out.size⟩
  ·obtain⟨Y,r⟩:=g.out;obtain⟨i,o,s,z,f,p,q⟩:=Y;have B:=Lh f;have C:=Lh p;have D:=Lh q;have R:=Lh r;have U:Cl wr a 1 (zI 1):=f.cell 1;have ad:=f.frozen 1;have S:Hid (AX (wr.setCell (zA a 1) zO) a 277 #[zS i 0 1 o,zO]):=Lh (f.Dw 1 zO);have v:Hid (Am (fun m=>m=a) wr (wr.setCell (zA a 1) zO)):=Lh ((Aa (fun m=>m=a) wr).setCell (p:=zA a 1) (fun _=>rfl) _);clear f p q r g A;go_wp2;go_ret2;exact⟨a,rfl,⟨i,o,s,z,S.out,Aj C.out v.out fun i x j=>Ba C.out B.out (by decide) (by rw[<- j];exact x),Aj D.out v.out fun i x j=>Ba D.out B.out (by decide) (by rw[<- j];exact x)⟩,by have:=u.out;omega,R.out.AJ v.out fun m hq j=>by have:=u.out;omega⟩
end

structure DZ where
 value:Int
 version:Int
 op:Int
 who:BB
structure G9 (x:DZ):Prop where
 v0:0<=x.value
 v1:x.value<=4611686018427387904
 n0:0<=x.version
 n1:x.version<=4611686018427387904
 o0:0<=x.op
 o8:x.op<8
 may:CX x.who=true
theorem IU {s:BB} (a:CX s=true):D9 [s]=true:=by
 unfold D9 Kz;simp[JQ,LK,a]
structure Er (w:Bc) (g a g2 a2 g3 a3 c2 c3:Nat) (x:DZ):Prop where
 b1:∃ cs,AX w g 43 cs
 b2:∃ cs,AX w g2 40 cs
 b3:∃ cs,AX w g3 27 cs
 k0:Cl w g a (zI x.value)
 k1:Cl w g (a+1) (zS g2 a2 1 c2)
 k2:Cl w g (a+2) (zI x.version)
 e0:Cl w g2 a2 (zI x.op)
 e1:Cl w g2 (a2+1) (zS g3 a3 1 c3)
 s0:Cl w g3 a3 (.string x.who)
def Ll (w:Bc) (v:Value):Option DZ->Prop
 |none=>∃ A c,v= .slice A 0 c
 |some x=>∃ g a c g2 a2 g3 a3 c2 c3,v=zS g a 1 c/\Er w g a g2 a2 g3 a3 c2 c3 x
def Mr (w:Bc) (k:Nat):Prop:=∃ a b,AX w k a b/\(a=43∨a=40∨a=27)
section
variable {w w' W:Bc} {g a g2 a2 g3 a3 c2 c3:Nat} {x:DZ}
theorem Er.Ab {S:Nat->Prop} (b:Er w g a g2 a2 g3 a3 c2 c3 x) (c:Am S w w') (i:∀ k,Mr w k->¬S k):Er w' g a g2 a2 g3 a3 c2 c3 x:=by
 obtain⟨m,d⟩:=b.b1;obtain⟨n,e⟩:=b.b2;obtain⟨o,h⟩:=b.b3;have f:=i g ⟨_,_,d,.inl rfl⟩;have j:=i g2 ⟨_,_,e,.inr (.inl rfl)⟩;have l:=i g3 ⟨_,_,h,.inr (.inr rfl)⟩;exact⟨⟨_,d.Ab c f⟩,⟨_,e.Ab c j⟩,⟨_,h.Ab c l⟩,(c.cell (p:=zA g a) d.lt f).trans b.k0,(c.cell (p:=zA g (a+1)) d.lt f).trans b.k1,(c.cell (p:=zA g (a+2)) d.lt f).trans b.k2,
  (c.cell (p:=zA g2 a2) e.lt j).trans b.e0,(c.cell (p:=zA g2 (a2+1)) e.lt j).trans b.e1,(c.cell (p:=zA g3 a3) h.lt l).trans b.s0⟩
theorem Ll.Ab {S:Nat->Prop} {v:Value} {b:Option DZ} (c:Ll w v b) (f:Am S w w') (e:∀ k,Mr w k->¬S k):Ll w' v b:=by
 rcases b with _|x
 ·exact c
 ·obtain⟨g,a,d,g2,a2,g3,a3,c2,c3,i,h⟩:=c;exact⟨g,a,d,g2,a2,g3,a3,c2,c3,i,h.Ab f e⟩
theorem Ll.AB {v:Value} {b:Option DZ} (a:Ll w v b) (c:Au w w'):Ll w' v b:=a.Ab c fun _ _ a=>a
theorem Er.AB (b:Er w g a g2 a2 g3 a3 c2 c3 x) (c:Au w w'):Er w' g a g2 a2 g3 a3 c2 c3 x:=b.Ab c fun _ _ b=>b
theorem Er.lt (b:Er w g a g2 a2 g3 a3 c2 c3 x):g<w.heap.size/\g2<w.heap.size/\g3<w.heap.size:=by
 obtain⟨f,c⟩:=b.b1;obtain⟨h,d⟩:=b.b2;obtain⟨i,e⟩:=b.b3;exact⟨c.lt,d.lt,e.lt⟩
theorem Er.reads (b:Er w g a g2 a2 g3 a3 c2 c3 x):Ay Value.string w w.heap.size 1 (some (zA g3 a3)) [x.who]:=by
 intro e c;have:e=0:=by simp at c;omega
 subst this;refine⟨g3,a3,rfl,b.lt.2.2,fun d f=>?_⟩;have:d=0:=by omega
 subst this;exact b.s0
theorem TN:(Tryz.prog.info? 43).map (fun i=>(i.zero,i.size,i.bytes))=some (some (.agg #[zO,zN,zO]),3,40):=by kernel_rfl
theorem LV:(Tryz.prog.info? 43).map (·.size)=some 3:=by kernel_rfl
theorem Ep:(Tryz.prog.info? 36).map (·.size)=some 2:=by kernel_rfl
theorem ME (n:Int) (w:Bc):Calls Tryz.prog 118 #[zI n] w (Rt (.bool (GA n)) fun w'=>w=w'):=by
 by_cases a:0<=n
 ·have c:decide (0<=n)=true:=by simpa using a
  have b:Hid (GA n=decide (n<=4611686018427387904)):=by show GA n=_;unfold GA;simp[a]
  clear a;go_in;go_wp2;go_ret;exact⟨by rw[b.out];rfl,rfl⟩
 ·have c:decide (0<=n)=false:=by simpa using a
  have b:Hid (GA n=false):=by show GA n=_;unfold GA;simp[a]
  clear a;go_in;go_wp2;go_ret;exact⟨by rw[b.out];rfl,rfl⟩
theorem Oy (boot:Int) (A:Option Addr) (c:Nat) (w:Bc) (f:0<=boot) (g:boot<=40) :
  Calls Tryz.prog 70 #[.agg #[zI boot,.slice A 0 c]] w (Rt (.bool true) (Au w)):=by
 have a:Hid (Au w (w.alloc (.cells #[zI boot,.slice A 0 c] 36))):=Lh ((Aa _ w).alloc _);have b:decide (boot<0)=false:=dF;have d:decide (boot > 40)=false:=dF;have e:decide (40<boot)=false:=dF;go_in;go_wp2_with fail;refine wp_loop_rounds 1 ?_;rw[rounds_succ];go_wp2;go_ret;exact⟨rfl,a.out⟩
theorem Kl (boot:Int) (x:DZ) (c:Nat) (w:Bc) (y:0<=boot) (z:boot<=40) (b:Er w g a g2 a2 g3 a3 c2 c3 x) (hx:G9 x) :
  Calls Tryz.prog 70 #[.agg #[zI boot,zS g a 1 c]] w (Rt (.bool true) (Au w)):=by
 have h:=Lh fun W=>ME x.value W
 have i:=Lh fun W=>ME x.version W
 have l:GA x.value=true:=by unfold GA;rw[Bb];exact⟨hx.v0,hx.v1⟩
 have m:GA x.version=true:=by unfold GA;rw[Bb];exact⟨hx.n0,hx.n1⟩
 rw[l] at h;rw[m] at i;have f:Hid (Au w (w.alloc (.cells #[zI boot,zS g a 1 c] 36))):=Lh ((Aa _ w).alloc _);have o:=Lh fun W (e:Au w W)=>Tc g2 a2 c2 x.op (zA g3 a3) c3 [x.who] W hx.o0 hx.o8 (IU hx.may) ((b.AB e).reads) (b.AB e).lt.2.1 (b.AB e).e0 (b.AB e).e1
 have d:=Lh (b.AB f.out);have t:decide (boot<0)=false:=dF;have u:decide (boot > 40)=false:=dF;have v:decide (40<boot)=false:=dF;clear b hx l m;go_in;go_wp2_with fail;generalize w.alloc (.cells #[zI boot,zS g a 1 c] 36)=E at f d ⊢;refine wp_loop_rounds 2 ?_;rw[rounds_succ];have A:=d.out.k0;have B:=d.out.k1;have C:=d.out.k2;have j:=Lh (f.out.alloc (.cells #[zI x.value,zS g2 a2 1 c2,zI x.version] 43));go_wp2_with (first
  |(go_at_call 118;(with_reducible refine(h.out _).mono ?_);rintro k s ⟨rfl,rfl⟩)
  |(go_at_call 118;(with_reducible refine(i.out _).mono ?_);rintro k s ⟨rfl,rfl⟩)
  |(go_at_call 119;(with_reducible refine(o.out _ j.out).mono ?_);rintro k F ⟨D,rfl,q,r,n⟩;have p:=Lh (j.out.to n);clear q r n))
 rw[rounds_succ];go_wp2;go_ret;exact⟨rfl,p.out⟩
end

def iR (x:DZ):List UInt8:=BL x.value.toNat++(BL x.version.toNat++(BL 1++(BL x.op.toNat++JY [x.who])))
def FM (boot:Int):Option DZ->List UInt8
 |none=>BL boot.toNat++BL 0
 |some x=>BL boot.toNat++(BL 1++iR x)
section
variable {w w' W:Bc} {g a g2 a2 g3 a3 c2 c3 base o:Nat} {x:DZ} {bs:List UInt8}
theorem BK.Xv (a:BK w base o bs):∃ cs,AX w o 175 cs:=by
 obtain⟨_,c,b,_⟩:=a;exact⟨_,b⟩
theorem BK.far {k:Nat} {t:TypeId} {cs:Array Value} (b:BK w base o bs) (a:AX w k t cs) (c:t≠175) (d:t≠5):¬BO base o w k:=by
 obtain⟨f,e⟩:=b.Xv;exact BO.not a (AX.GJ a e c) d
theorem BK.Wp (a:BK w base o bs):∀ k,Mr w k->¬BO base o w k:=by
 rintro k ⟨d,c,b,ht⟩;refine a.far b ?_ ?_
 ·rcases ht with rfl|rfl|rfl<;>decide
 ·rcases ht with rfl|rfl|rfl<;>decide
theorem U2 (boot:Int) (A:Option Addr) (c:Nat) (w:Bc) (i:0<=boot) (C:boot<=40) :
  Calls Tryz.prog 46 #[.agg #[zI boot,.slice A 0 c]] w (Rt (.tuple #[.string (Dy (FM boot none)),zO]) (Au w)):=by
 have z:=Lh fun W=>Oy boot A c W i C
 obtain⟨h,k⟩:∃ x,x=BL boot.toNat:=⟨_,rfl⟩
 obtain⟨s,p⟩:∃ x,x=BL (0:Int).toNat:=⟨_,rfl⟩
 have B:Hid (FM boot none=h++s):=by show FM boot none=_;rw[k,p];rfl
 have H:h.length<=9:=by rw[k];exact BS (by omega)
 have v:Hid (∀ {w base o},BK w base o ([])->Calls Tryz.prog 71 #[zP o,zI boot] w (Rt (.tuple #[]) fun w'=>BK w' base o (h)/\Am (BO base o w) w w')):=by
  intro w base o i;have:=El i boot (by omega) (by omega) (by rw[CV];omega)
  rwa [<- k,BU] at this
 have y:Hid (∀ {w base o},BK w base o (h)->Calls Tryz.prog 71 #[zP o,zO] w (Rt (.tuple #[]) fun w'=>BK w' base o (h++s)/\Am (BO base o w) w w')):=by
  intro w base o i;have:=El i 0 (by omega) (by omega) (by omega)
  rwa [<- p] at this
 have a:Hid (AX (w.alloc (.cells #[zI boot,.slice A 0 c] 36)) w.heap.size 36 #[zI boot,.slice A 0 c]):=Lh (AX.new w _ _);have d:Hid (Au w (w.alloc (.cells #[zI boot,.slice A 0 c] 36))):=Lh ((Aa _ w).alloc _);clear k p;go_in;go_upto_region 1 with(fail)
 obtain⟨L,u⟩:∃ g,g=w.heap.size:=⟨_,rfl⟩
 generalize w.alloc (.cells #[zI boot,.slice A 0 c] 36)=I at a d ⊢;rw[<- u] at a ⊢;clear u;go_upto_region 3 with(first
  |(refine AA rfl (.tmp 1) rfl rfl a.out Tryz.underlying36 rfl Ep ?_)
  |(go_at_call 70;refine(z.out _).mono ?_;rintro n f ⟨rfl,e⟩;replace a:=Lh (a.out.Ab e id);replace d:=Lh (d.out.to e);clear e))
 have b:Hid (BK (f.alloc (.cells #[zO,zN] 175)) f.heap.size f.heap.size []):=Lh (BK.new f);have E:w.heap.size<=f.heap.size:=d.out.size;replace a:=Lh (a.out.alloc (.cells #[zO,zN] 175));replace d:=Lh (d.out.alloc (.cells #[zO,zN] 175));go_upto_region 4 with(fail)
 generalize f.alloc (.cells #[zO,zN] 175)=J at a d b ⊢;obtain⟨base,t⟩:∃ base,base=f.heap.size:=⟨_,rfl⟩
 rw[<- t] at b E ⊢;clear t;have l:=a.out.cell 0;have m:=a.out.cell 1;go_wp2_with (first
  |(go_at_call 71;(with_reducible refine(v.out b.out).mono ?_);rintro n G ⟨rfl,j,e⟩;have r:=BK.ge b.out;replace a:=Lh (a.out.Ab e (b.out.far a.out (by decide) (by decide)));replace d:=Lh (d.out.AJ e fun F D q=>by(have:=BO.ge b.out.ge q;omega));replace b:=Lh j;clear e j r;clear l m;have l:=a.out.cell 0;have m:=a.out.cell 1)
  |(go_at_call 71;(with_reducible refine(y.out b.out).mono ?_);rintro n G ⟨rfl,j,e⟩;have r:=BK.ge b.out;replace a:=Lh (a.out.Ab e (b.out.far a.out (by decide) (by decide)));replace d:=Lh (d.out.AJ e fun F D q=>by(have:=BO.ge b.out.ge q;omega));replace b:=Lh j;clear e j r;clear l m;have l:=a.out.cell 0;have m:=a.out.cell 1))
 refine wp_loop_rounds 1 ?_;rw[rounds_succ];go_wp2_with (go_at_call 73;refine(Je b.out).mono ?_;rintro n K ⟨rfl,rfl⟩);go_ret2;exact⟨by rw[B.out];rfl,d.out⟩
theorem U3 (boot:Int) (c:Nat) (w:Bc) (u:0<=boot) (ao:boot<=40) (Y:Er w g a g2 a2 g3 a3 c2 c3 x) (hx:G9 x) :
  Calls Tryz.prog 46 #[.agg #[zI boot,zS g a 1 c]] w (Rt (.tuple #[.string (Dy (FM boot (some x))),zO]) (Au w)):=by
 have am:=Lh fun W (aq:Au w W)=>Kl boot x c W u ao (Y.AB aq) hx
 obtain⟨v,O⟩:∃ C,C=BL boot.toNat:=⟨_,rfl⟩
 obtain⟨z,P⟩:∃ C,C=BL (1:Int).toNat:=⟨_,rfl⟩
 obtain⟨G,Q⟩:∃ C,C=BL x.value.toNat:=⟨_,rfl⟩
 obtain⟨H,R⟩:∃ C,C=BL x.version.toNat:=⟨_,rfl⟩
 obtain⟨K,S⟩:∃ C,C=BL (1:Int).toNat:=⟨_,rfl⟩
 obtain⟨N,T⟩:∃ C,C=BL x.op.toNat:=⟨_,rfl⟩
 obtain⟨Z,X⟩:∃ C,C=JY [x.who]:=⟨_,rfl⟩
 have an:Hid (FM boot (some x)=v++(z++(G++(H++(K++(N++Z)))))):=by show FM boot (some x)=_;rw[O,P,Q,R,S,T,X];rfl
 have au:v.length<=9:=by rw[O];exact BS (by omega)
 have av:z.length<=9:=by rw[P];exact BS (by omega)
 have aw:G.length<=9:=by rw[Q];exact BS (by have:=hx.v1;omega)
 have ax:H.length<=9:=by rw[R];exact BS (by have:=hx.n1;omega)
 have ay:K.length<=9:=by rw[S];exact BS (by omega)
 have az:N.length<=9:=by rw[T];exact BS (by have:=hx.o8;omega)
 have af:Hid (∀ {w base o},BK w base o ([])->Calls Tryz.prog 71 #[zP o,zI boot] w (Rt (.tuple #[]) fun w'=>BK w' base o (v)/\Am (BO base o w) w w')):=by
  intro w base o u;have:=El u boot (by omega) (by omega) (by rw[CV];omega)
  rwa [<- O,BU] at this
 have ag:Hid (∀ {w base o},BK w base o (v)->Calls Tryz.prog 71 #[zP o,zI 1] w (Rt (.tuple #[]) fun w'=>BK w' base o (v++z)/\Am (BO base o w) w w')):=by
  intro w base o u;have:=El u 1 (by omega) (by omega) (by omega)
  rwa [<- P] at this
 have ah:Hid (∀ {w base o},BK w base o (v++z)->Calls Tryz.prog 71 #[zP o,zI x.value] w (Rt (.tuple #[]) fun w'=>BK w' base o (v++z++G)/\Am (BO base o w) w w')):=by
  intro w base o u;have:=El u x.value hx.v0 (by have:=hx.v1;omega) (by simp only[Ap];omega)
  rwa [<- Q] at this
 have ai:Hid (∀ {w base o},BK w base o (v++z++G)->Calls Tryz.prog 71 #[zP o,zI x.version] w (Rt (.tuple #[]) fun w'=>BK w' base o (v++z++G++H)/\Am (BO base o w) w w')):=by
  intro w base o u;have:=El u x.version hx.n0 (by have:=hx.n1;omega) (by simp only[Ap];omega)
  rwa [<- R] at this
 have aj:Hid (∀ {w base o},BK w base o (v++z++G++H)->Calls Tryz.prog 71 #[zP o,zI 1] w (Rt (.tuple #[]) fun w'=>BK w' base o (v++z++G++H++K)/\Am (BO base o w) w w')):=by
  intro w base o u;have:=El u 1 (by omega) (by omega) (by simp only[Ap];omega)
  rwa [<- S] at this
 have ak:Hid (∀ {w base o},BK w base o (v++z++G++H++K)->Calls Tryz.prog 71 #[zP o,zI x.op] w (Rt (.tuple #[]) fun w'=>BK w' base o (v++z++G++H++K++N)/\Am (BO base o w) w w')):=by
  intro w base o u;have:=El u x.op hx.o0 (by have:=hx.o8;omega) (by simp only[Ap];omega)
  rwa [<- T] at this
 have al:Hid (∀ {w base o},BK w base o (v++z++G++H++K++N)->Er w g a g2 a2 g3 a3 c2 c3 x->Calls Tryz.prog 72 #[zP o,zS g3 a3 1 c3] w (Rt (.tuple #[]) fun w'=>BK w' base o (v++z++G++H++K++N++Z)/\Am (BO base o w) w w')):=by
  intro w base o u aa;have:=Us u (some (zA g3 a3)) c3 [x.who] (IU hx.may) (by intro s bb;rw[Ai.1 bb];exact ET hx.may) aa.reads (fun b bf ap=>by
   cases ap;obtain⟨be,ar⟩:=aa.b3;exact u.far ar (by decide) (by decide)) (by simp only[Ap];omega)
  rwa [<- X] at this
 have e:Hid (AX (w.alloc (.cells #[zI boot,zS g a 1 c] 36)) w.heap.size 36 #[zI boot,zS g a 1 c]):=Lh (AX.new w _ _);have i:Hid (Au w (w.alloc (.cells #[zI boot,zS g a 1 c] 36))):=Lh ((Aa _ w).alloc _);have bn:=Lh (Y.AB i.out);clear O P Q R S T X au av aw ax ay az Y hx;go_in;go_upto_region 1 with(fail)
 obtain⟨bk,ac⟩:∃ g,g=w.heap.size:=⟨_,rfl⟩
 generalize w.alloc (.cells #[zI boot,zS g a 1 c] 36)=bh at e i bn ⊢;rw[<- ac] at e ⊢;clear ac;go_upto_region 3 with(first
  |(refine AA rfl (.tmp 1) rfl rfl e.out Tryz.underlying36 rfl Ep ?_)
  |(go_at_call 70;refine(am.out _ i.out).mono ?_;rintro I J ⟨rfl,f⟩;replace e:=Lh (e.out.Ab f id);replace bn:=Lh (bn.out.AB f);replace i:=Lh (i.out.to f);clear f))
 have d:Hid (BK (J.alloc (.cells #[zO,zN] 175)) J.heap.size J.heap.size []):=Lh (BK.new J);have ba:w.heap.size<=J.heap.size:=i.out.size;replace e:=Lh (e.out.alloc (.cells #[zO,zN] 175));replace bn:=Lh (bn.out.AB ((Aa _ J).alloc (.cells #[zO,zN] 175)));replace i:=Lh (i.out.alloc (.cells #[zO,zN] 175));go_upto_region 4 with(fail)
 generalize J.alloc (.cells #[zO,zN] 175)=bi at e i d bn ⊢;obtain⟨base,ab⟩:∃ base,base=J.heap.size:=⟨_,rfl⟩
 rw[<- ab] at d ba ⊢;clear ab;have bo:=e.out.cell 0;have t:=e.out.cell 1;have n:=bn.out.k0;have p:=bn.out.k1;have q:=bn.out.k2;have l:=bn.out.e0;have m:=bn.out.e1;have r:=bn.out.s0;go_wp2_with (first
  |(go_at_call 71;(with_reducible refine(af.out d.out).mono ?_);rintro I k ⟨rfl,j,f⟩;have B:=BK.ge d.out;replace e:=Lh (e.out.Ab f (d.out.far e.out (by decide) (by decide)));replace bn:=Lh (bn.out.Ab f (d.out.Wp));replace i:=Lh (i.out.AJ f fun M L A=>by(have:=BO.ge d.out.ge A;omega));replace d:=Lh j;clear f j B;clear bo t;have bo:=e.out.cell 0;have t:=e.out.cell 1;clear n p q l m r;have n:=bn.out.k0;have p:=bn.out.k1;have q:=bn.out.k2;have l:=bn.out.e0;have m:=bn.out.e1;have r:=bn.out.s0)
  |(go_at_call 71;(with_reducible refine(ag.out d.out).mono ?_);rintro I k ⟨rfl,j,f⟩;have B:=BK.ge d.out;replace e:=Lh (e.out.Ab f (d.out.far e.out (by decide) (by decide)));replace bn:=Lh (bn.out.Ab f (d.out.Wp));replace i:=Lh (i.out.AJ f fun M L A=>by(have:=BO.ge d.out.ge A;omega));replace d:=Lh j;clear f j B;clear bo t;have bo:=e.out.cell 0;have t:=e.out.cell 1;clear n p q l m r;have n:=bn.out.k0;have p:=bn.out.k1;have q:=bn.out.k2;have l:=bn.out.e0;have m:=bn.out.e1;have r:=bn.out.s0))
 refine wp_loop_rounds 2 ?_;rw[rounds_succ];go_upto_region 9 with(fail)
 have h:Hid (AX (k.alloc (.cells #[zI x.value,zS g2 a2 1 c2,zI x.version] 43)) k.heap.size 43 #[zI x.value,zS g2 a2 1 c2,zI x.version]):=Lh (AX.new k _ _);replace e:=Lh (e.out.alloc (.cells #[zI x.value,zS g2 a2 1 c2,zI x.version] 43));replace bn:=Lh (bn.out.AB ((Aa _ k).alloc (.cells #[zI x.value,zS g2 a2 1 c2,zI x.version] 43)));replace d:=Lh (d.out.AB ((Aa _ k).alloc (.cells #[zI x.value,zS g2 a2 1 c2,zI x.version] 43)));replace i:=Lh (i.out.alloc (.cells #[zI x.value,zS g2 a2 1 c2,zI x.version] 43));obtain⟨bl,ad⟩:∃ g,g=k.heap.size:=⟨_,rfl⟩
 generalize k.alloc (.cells #[zI x.value,zS g2 a2 1 c2,zI x.version] 43)=bc at e h i d bn ⊢;rw[<- ad] at h ⊢;clear ad bo t n p q l m r;have bo:=e.out.cell 0;have t:=e.out.cell 1;have D:=h.out.cell 0;have E:=h.out.cell 1;have F:=h.out.cell 2;have n:=bn.out.k0;have p:=bn.out.k1;have q:=bn.out.k2;have l:=bn.out.e0;have m:=bn.out.e1;have r:=bn.out.s0;go_wp2_with (first
  |(go_at_call 71;(with_reducible refine(ah.out d.out).mono ?_);rintro I k ⟨rfl,j,f⟩;have B:=BK.ge d.out;replace e:=Lh (e.out.Ab f (d.out.far e.out (by decide) (by decide)));replace h:=Lh (h.out.Ab f (d.out.far h.out (by decide) (by decide)));replace bn:=Lh (bn.out.Ab f (d.out.Wp));replace i:=Lh (i.out.AJ f fun M L A=>by(have:=BO.ge d.out.ge A;omega));replace d:=Lh j;clear f j B;clear bo t;have bo:=e.out.cell 0;have t:=e.out.cell 1;clear D E F;have D:=h.out.cell 0;have E:=h.out.cell 1;have F:=h.out.cell 2;clear n p q l m r;have n:=bn.out.k0;have p:=bn.out.k1;have q:=bn.out.k2;have l:=bn.out.e0;have m:=bn.out.e1;have r:=bn.out.s0)
  |(go_at_call 71;(with_reducible refine(ai.out d.out).mono ?_);rintro I k ⟨rfl,j,f⟩;have B:=BK.ge d.out;replace e:=Lh (e.out.Ab f (d.out.far e.out (by decide) (by decide)));replace h:=Lh (h.out.Ab f (d.out.far h.out (by decide) (by decide)));replace bn:=Lh (bn.out.Ab f (d.out.Wp));replace i:=Lh (i.out.AJ f fun M L A=>by(have:=BO.ge d.out.ge A;omega));replace d:=Lh j;clear f j B;clear bo t;have bo:=e.out.cell 0;have t:=e.out.cell 1;clear D E F;have D:=h.out.cell 0;have E:=h.out.cell 1;have F:=h.out.cell 2;clear n p q l m r;have n:=bn.out.k0;have p:=bn.out.k1;have q:=bn.out.k2;have l:=bn.out.e0;have m:=bn.out.e1;have r:=bn.out.s0)
  |(go_at_call 71;(with_reducible refine(aj.out d.out).mono ?_);rintro I k ⟨rfl,j,f⟩;have B:=BK.ge d.out;replace e:=Lh (e.out.Ab f (d.out.far e.out (by decide) (by decide)));replace h:=Lh (h.out.Ab f (d.out.far h.out (by decide) (by decide)));replace bn:=Lh (bn.out.Ab f (d.out.Wp));replace i:=Lh (i.out.AJ f fun M L A=>by(have:=BO.ge d.out.ge A;omega));replace d:=Lh j;clear f j B;clear bo t;have bo:=e.out.cell 0;have t:=e.out.cell 1;clear D E F;have D:=h.out.cell 0;have E:=h.out.cell 1;have F:=h.out.cell 2;clear n p q l m r;have n:=bn.out.k0;have p:=bn.out.k1;have q:=bn.out.k2;have l:=bn.out.e0;have m:=bn.out.e1;have r:=bn.out.s0))
 refine wp_loop_rounds 2 ?_;rw[rounds_succ];go_upto_region 15 with(fail)
 have y:Hid (AX (k.alloc (.cells #[zI x.op,zS g3 a3 1 c3] 40)) k.heap.size 40 #[zI x.op,zS g3 a3 1 c3]):=Lh (AX.new k _ _);replace e:=Lh (e.out.alloc (.cells #[zI x.op,zS g3 a3 1 c3] 40));replace h:=Lh (h.out.alloc (.cells #[zI x.op,zS g3 a3 1 c3] 40));replace bn:=Lh (bn.out.AB ((Aa _ k).alloc (.cells #[zI x.op,zS g3 a3 1 c3] 40)));replace d:=Lh (d.out.AB ((Aa _ k).alloc (.cells #[zI x.op,zS g3 a3 1 c3] 40)));replace i:=Lh (i.out.alloc (.cells #[zI x.op,zS g3 a3 1 c3] 40));obtain⟨bm,ae⟩:∃ g,g=k.heap.size:=⟨_,rfl⟩
 generalize k.alloc (.cells #[zI x.op,zS g3 a3 1 c3] 40)=bj at e h y i d bn ⊢;rw[<- ae] at y ⊢;clear ae bo t D E F n p q l m r;have bo:=e.out.cell 0;have t:=e.out.cell 1;have D:=h.out.cell 0;have E:=h.out.cell 1;have F:=h.out.cell 2;have U:=y.out.cell 0;have V:=y.out.cell 1;have n:=bn.out.k0;have p:=bn.out.k1;have q:=bn.out.k2;have l:=bn.out.e0;have m:=bn.out.e1;have r:=bn.out.s0;go_wp2_with (first
  |(go_at_call 71;refine(ak.out d.out).mono ?_;rintro I k ⟨rfl,j,f⟩;have B:=BK.ge d.out;replace e:=Lh (e.out.Ab f (d.out.far e.out (by decide) (by decide)));replace h:=Lh (h.out.Ab f (d.out.far h.out (by decide) (by decide)));replace y:=Lh (y.out.Ab f (d.out.far y.out (by decide) (by decide)));replace bn:=Lh (bn.out.Ab f (d.out.Wp));replace i:=Lh (i.out.AJ f fun M L A=>by(have:=BO.ge d.out.ge A;omega));replace d:=Lh j;clear f j B;clear bo t;have bo:=e.out.cell 0;have t:=e.out.cell 1;clear D E F;have D:=h.out.cell 0;have E:=h.out.cell 1;have F:=h.out.cell 2;clear U V;have U:=y.out.cell 0;have V:=y.out.cell 1;clear n p q l m r;have n:=bn.out.k0;have p:=bn.out.k1;have q:=bn.out.k2;have l:=bn.out.e0;have m:=bn.out.e1;have r:=bn.out.s0)
  |(go_at_call 72;refine(al.out d.out bn.out).mono ?_;rintro I k ⟨rfl,j,f⟩;have B:=BK.ge d.out;replace e:=Lh (e.out.Ab f (d.out.far e.out (by decide) (by decide)));replace h:=Lh (h.out.Ab f (d.out.far h.out (by decide) (by decide)));replace y:=Lh (y.out.Ab f (d.out.far y.out (by decide) (by decide)));replace bn:=Lh (bn.out.Ab f (d.out.Wp));replace i:=Lh (i.out.AJ f fun M L A=>by(have:=BO.ge d.out.ge A;omega));replace d:=Lh j;clear f j B;clear bo t;have bo:=e.out.cell 0;have t:=e.out.cell 1;clear D E F;have D:=h.out.cell 0;have E:=h.out.cell 1;have F:=h.out.cell 2;clear U V;have U:=y.out.cell 0;have V:=y.out.cell 1;clear n p q l m r;have n:=bn.out.k0;have p:=bn.out.k1;have q:=bn.out.k2;have l:=bn.out.e0;have m:=bn.out.e1;have r:=bn.out.s0))
 rw[rounds_succ];go_wp2;rw[rounds_succ];go_wp2_with (go_at_call 73;refine(Je d.out).mono ?_;rintro I bc ⟨rfl,rfl⟩);go_ret2;exact⟨by rw[an.out];rfl,i.out⟩
end

section
variable {w w' W:Bc} {p base:Nat} {rest:List UInt8} {x:DZ}
theorem BP.Xv (a:BP w p rest):∃ cs,AX w p 281 cs:=by
 obtain⟨_,_,b,_⟩:=a;exact⟨_,b⟩
theorem BP.far {k:Nat} {t:TypeId} {cs:Array Value} (a:BP w p rest) (b:AX w k t cs) (ht:t≠281):¬k=p:=by
 obtain⟨d,c⟩:=a.Xv;exact AX.GJ b c ht
theorem BP.own {e size n:Nat} {v:Value} {xs:List Value} (a:BP w p rest) (b:w.ownsRow base e size v n xs) (c:e≠281):∀ g,v.ownBlock=some g->¬g=p:=by
 obtain⟨h,f⟩:=a.Xv;exact fun g d e=>Ba b f c (by rw[<- e];exact d)
theorem KF {e size n g c:Nat} {xs:List Value} (b:w.ownsRow base e size (zS g 0 n c) n xs):(∃ cs,AX w g e cs)/\∀ i,i<n*size->w.cell? (zA g i)=xs[i]?:=by
 obtain⟨_,cs,j⟩:=Ic b (g:=g) rfl;refine⟨⟨cs,j⟩,fun i l=>?_⟩;rcases b.2 with⟨a,_⟩|⟨o,m,d,a,p,f,_,_,_,h⟩
 ·cases a
 ·cases a;have k:AX w g e d:=f;rw[k.cell i,<- h,Cf l];simp
theorem Qa {h i j g k c a d b:Nat} (n:w.ownsRow h 43 3 (zS g 0 1 k) 1 [zI x.value,zS c 0 1 a,zI x.version])
  (m:w.ownsRow i 40 2 (zS c 0 1 a) 1 [zI x.op,zS d 0 1 b]) (o:w.ownsRow j 27 1 (zS d 0 1 b) 1 [.string x.who]):Er w g 0 c 0 d 0 a b x:=by
 obtain⟨p,e⟩:=KF n;obtain⟨l,f⟩:=KF m;obtain⟨q,r⟩:=KF o;exact⟨p,l,q,e 0 (by omega),e 1 (by omega),e 2 (by omega),f 0 (by omega),f 1 (by omega),r 0 (by omega)⟩
def NF (n:Nat) (w:Bc) (v:Value):Option DZ->Prop
 |none=>∃ A c,v= .slice A 0 c
 |some x=>∃ g a c g2 d b e f h,v=zS g a 1 c/\Er w g a g2 d b e f h x/\n<=g/\n<=g2/\n<=b
theorem NF.at_ {n:Nat} {w:Bc} {v:Value} {a:Option DZ} (b:NF n w v a):Ll w v a:=by
 cases a with
 |none=>exact b
 |some x =>
  obtain⟨j,c,f,k,d,l,e,g,h,i,m,_⟩:=b;exact⟨j,c,f,k,d,l,e,g,h,i,m⟩
def lF (w:Bc) (boot:Int) (b:Option DZ) (e:Ending) (w':Bc):Prop:=∃ a,e= .returned (.tuple #[.agg #[zI boot,a],zO])/\NF w.heap.size w' a b/\Au w w'
theorem U0 (boot:Int) (s:BB) (w:Bc) (l:0<=boot) (r:boot<=40) (x:s.data.toList=FM boot none) :
  Calls Tryz.prog 84 #[.string s] w (lF w boot none):=by
 have F:=Lh fun W=>Oy boot none 0 W l r
 have C:s.size<=1000000:=by
  have r:s.size=(FM boot none).length:=by rw[<- x];rfl
  rw[r];unfold FM;rw[Ap];have:=BS (n:=boot.toNat) (by omega);have:=BS (n:=0) (by omega);omega
 have B:s.data.toList=BL (boot).toNat++(BL (0:Int).toNat++[]):=by rw[x];unfold FM;rw[Dc];rfl
 have m:=fun W=>JO s W C
 rw[B] at m;have z:=Lh m;have H:Hid (∀ W p rest,BP W p (BL (boot).toNat++rest)->Calls Tryz.prog 125 #[zP p,zI 40] W (Rt (zI (boot)) fun w'=>BP w' p rest/\Am (fun k=>k=p) W w')):=by
  intro W p rest l;have:=Ej (most:=40) l (by omega) (by omega);have e:(((boot).toNat:Nat):Int)=boot:=by omega
  rwa [e] at this
 have I:Hid (∀ W p rest,BP W p (BL ((0:Int)).toNat++rest)->Calls Tryz.prog 125 #[zP p,zI 4] W (Rt (zI ((0:Int))) fun w'=>BP w' p rest/\Am (fun k=>k=p) W w')):=by
  intro W p rest l;have:=Ej (most:=4) l (by omega) (by omega);have e:((((0:Int)).toNat:Nat):Int)=(0:Int):=by omega
  rwa [e] at this
 clear m B x C;have a:Hid (AX (w.alloc (.cells #[zO,zN] 36)) w.heap.size 36 #[zO,zN]):=Lh (AX.new w _ _);have b:Hid (Au w (w.alloc (.cells #[zO,zN] 36))):=Lh ((Aa _ w).alloc _);go_in;go_upto_region 1 with(fail)
 obtain⟨O,u⟩:∃ o,o=w.heap.size:=⟨_,rfl⟩
 generalize w.alloc (.cells #[zO,zN] 36)=M at a b ⊢;rw[<- u] at a ⊢;have G:=Lh u;clear u;go_wp2_with fail;refine(z.out _).mono ?_;rintro e P ⟨rfl,g,c⟩;obtain⟨p,t⟩:∃ p,p=M.heap.size:=⟨_,rfl⟩
 rw[<- t] at g ⊢;have A:Hid (w.heap.size<=p):=Lh (by rw[t];exact b.out.size);clear t;replace a:=Lh (a.out.Ab c id);replace b:=Lh (b.out.to c);have f:=Lh g;clear c g z;go_upto_region 3 with(go_at_call 125;refine(H.out _ _ _ f.out).mono ?_;rintro e i ⟨rfl,g,h⟩;have j:=f.out;replace a:=Lh (a.out.Ab h (BP.far j a.out (by decide)));replace b:=Lh (b.out.AJ h fun k c e=>by have:=A.out;omega);replace f:=Lh g;clear h g j)
 have d:Hid (AX (i.alloc (.cells #[zI boot,zN] 36)) i.heap.size 36 #[zI boot,zN]):=Lh (AX.new i _ _);replace a:=Lh (a.out.alloc (.cells #[zI boot,zN] 36));replace f:=Lh (f.out.AB ((Aa _ i).alloc (.cells #[zI boot,zN] 36)));replace b:=Lh (b.out.alloc (.cells #[zI boot,zN] 36));obtain⟨U,y⟩:∃ o,o=i.heap.size:=⟨_,rfl⟩
 generalize i.alloc (.cells #[zI boot,zN] 36)=Q at a f b d ⊢;rw[<- y] at d ⊢;have N:=Lh y;clear y;go_wp2_with (go_at_call 125;refine(I.out _ _ _ f.out).mono ?_;rintro e i ⟨rfl,g,h⟩;have j:=f.out;replace a:=Lh (a.out.Ab h (BP.far j a.out (by decide)));replace d:=Lh (d.out.Ab h (BP.far j d.out (by decide)));replace b:=Lh (b.out.AJ h fun k c e=>by have:=A.out;omega);replace f:=Lh g;clear h g j);refine wp_loop_rounds 1 ?_;rw[rounds_succ];have D:=d.out.cell 0;have E:=d.out.cell 1;go_wp2_with (first
  |(go_at_call 127;refine(Jb f.out).mono ?_;rintro e R ⟨rfl,c⟩;replace a:=Lh (a.out.Ab c id);replace d:=Lh (d.out.Ab c id);replace b:=Lh (b.out.to c);clear c D E;have D:=d.out.cell 0;have E:=d.out.cell 1)
  |(go_at_call 70;refine(F.out _).mono ?_;rintro e S ⟨rfl,c⟩;replace a:=Lh (a.out.Ab c id);replace d:=Lh (d.out.Ab c id);replace b:=Lh (b.out.to c);clear c)
  |(refine AA rfl (.tmp 5) rfl rfl d.out Tryz.underlying36 rfl Ep ?_)
  |(refine Bo rfl (.tmp 2) (.tmp 52) rfl rfl (cs':=#[zI boot,zN]) rfl a.out Ep rfl (by simp[Value.oneCell']) ?_;intro T J K L;clear L))
 refine bodyPost_ret (v:=.tuple #[.agg #[zI boot,zN],zO]) (CB (p:=2) (q:=3) Tryz.results84 _ rfl rfl J Tryz.underlying36 rfl Ep) rfl ?_;exact⟨_,rfl,⟨none,0,rfl⟩,b.out.AJ K fun k c e=>by have:=G.out;omega⟩
end

end Go.Proofs.YtcjcndnjpedniaaGreat
