/- A part of the proof of TopUsers. -/
import Derived.ArgAppend
import Derived.Test.YtcjcndnjpedniaaGreatB29
namespace Go.Proofs.YtcjcndnjpedniaaGreat
set_option linter.all false
set_option maxRecDepth 100000
set_option maxHeartbeats 8000000
open Go.RowKit
def DZ.add (x:DZ) (arg:Int):DZ:=⟨x.value+arg,x.version,x.op,x.who⟩
structure gB (d:Fb) (x:DZ) (cw:List BB) (arg:Int) (L:List Ca) (uses:Int) (Y:List (Iu × Int)) (num:Nat) (ans:Int) (C:List Ca) (u':Int) (Y':List (Iu × Int)) (er v:Int) (n' h':Nat) (x':DZ):Prop where
 iff:∀ c,c∈C↔c∈L/\GY c d.Kh=true
 an:RD FW C [x.who] cw 200 ans
 us:u'<=uses+1
 ln:Y'.length<=Y.length+1
 tn:∀ y∈Y',y.1.turn<=(L.length:Int)
 nn:n'<=num+1
 hh:h'<=1
 r:(ans=2/\er=12/\v=0/\x'=x)∨(ans=0/\er=13/\v=0/\x'=x)∨(ans=1/\er=0/\v=x.value+arg/\x'=x.add arg)
def qJ (l m n p:Eb) (b t s r num half:Nat) (u v room uses ch seq arg:Int) (cw:List BB) (Y:List (Iu × Int)) (L:List Ca) (d:Fb) (x:DZ) (w:Bc) (o:Nat->Nat) (e:Ending) (w':Bc):Prop :=
 ∃ q k h a c i g f j,e= .returned (.tuple #[zI i,zI c])/\gB d x cw arg L uses Y num q k h a c i g f j/\FE (some b) (parts l m n p (Dv {d with ob:=some j}) (Dz b d.st u L) (Hy b d.tb t v [(ch,cw,seq)] []) (EP d.ca s room h a) (FZ r d.jp g f)) o w w'
theorem Vo {roots:List Dj} {C:List Ca} {d cs:List BB} {b:Nat} {c:Int} (a:RD roots C d cs b c):c=2∨c=0∨c=1:=by
 rcases a with⟨_,a⟩|⟨_,⟨_,_,_,a⟩|⟨a,_⟩⟩
 ·exact .inr (.inr a)
 ·rcases a with⟨a,_⟩|⟨a,_⟩|⟨a,_⟩
  ·exact .inr (.inr a)
  ·exact .inr (.inl a)
  ·exact .inl a
 ·exact .inl a
theorem JH:(Tryz.prog.info? 36).map (·.size)=some 2:=by kernel_rfl
section
variable {w w' W:Bc} {o:Nat->Nat} {d:Fb} {x:DZ}
theorem NU (a:d.ob=some x):({d with ob:=some x}:Fb)=d:=by
 cases d;cases a;rfl
theorem Qn {boot:Int} {f e g c d:Nat} (a:Vj w w' boot x f e g c d):Er w' f 0 e 0 g 0 c d x:=by
 obtain⟨⟨_,h⟩,b⟩:=KF a.e;obtain⟨⟨_,i⟩,j⟩:=KF a.s;exact⟨⟨_,a.o⟩,⟨_,h⟩,⟨_,i⟩,a.o.cell 0,a.o.cell 1,a.o.cell 2,b 0 (by omega),b 1 (by omega),j 0 (by omega)⟩
theorem gT {boot op arg:Int} {g a g2 f l h i j:Nat} (c:Nat) (w:Bc) (b:0<=boot) (d:boot<=40) (e:Er w g a g2 f l h i j x) (hx:G9 x) (ha:G8 op arg) (m:x.value+arg<=4611686018427387904) :
  Calls Tryz.prog 192 #[.agg #[zI boot,zS g a 1 c],.agg #[zO,zI op,zI arg,zO,zN]] w (qF w boot (x.add arg)):=by
 rcases ha.o with rfl|rfl
 ·have:=ha.z rfl;subst this;have k:x.add 0=x:=by unfold DZ.add;rw[Int.add_zero]
  rw[k];exact qO boot c w b d e hx
 ·exact qP boot arg c w b d e hx ha m
theorem Y4 {boot arg:Int} {g e g2 j s k n o f b t l u m p q:Nat} (c a:Nat) (w:Bc) (i:Er w g e g2 j s k n o x) (d:Er w f b t l u m p q (x.add arg)) :
  Calls Tryz.prog 193 #[.agg #[zI boot,zS g e 1 c],.agg #[zI boot,zS f b 1 a]] w (Rt (.bool (decide (arg=0))) (Au w)):=by
 by_cases h:arg=0
 ·subst h;have r:x.add 0=x:=by unfold DZ.add;rw[Int.add_zero]
  rw[r] at d;exact same_eq boot c a w i d
 ·rw[BC h];exact jR boot c a w i d (by show x.value≠x.value+arg;omega)
theorem Y5 {b ad ac ab num half:Nat} {ae af room uses ch l seq op arg:Int} {cw:List BB} {Y:List (Iu × Int)} {L:List Ca} {R S T U:Eb} (fd:R.tab=false) (fe:S.tab=false) (ff:T.tab=false) (fg:U.tab=false)
  (h:ED (parts R S T U (Dv d) (Dz b d.st ae L) (Hy b d.tb ad af [(ch,cw,l)] []) (EP d.ca ac room uses Y) (FZ ab d.jp num half)) w o) (cs:d.ob=some x) (ef:0<=d.boot) (eg:d.boot<=40) (cr:Ey ch) (hx:G9 x) (fb:x.op=op) (ha:G8 op arg) (es:∀ c∈L,Cn c) (K:L.length<=20) (eh:D9 cw=true) (ei:∀ s∈cw,s.size<=16) (eo:∀ y∈Y,y.1.turn<(L.length:Int)) (ex:uses<=1000000) (eb:Y.length<=100) (eu:1<=room)
  (ev:0<=seq) (ew:l<seq) (ct:x.value+arg<=4611686018427387904) (en:(FM d.boot (some (x.add arg))).length<=32) (er:num+1<256) (el:half<=1) :
  Calls Tryz.prog 150 #[zP d.nb,.agg #[zI 2,zU ch,zI seq,zO,zI op,zI arg,zO,zN,zO,zO,zE,zN]] w (qJ R S T U b ad ac ab num half ae af room uses ch seq arg cw Y L d x w o):=by
 have ck:=(T0 w).alloc (.cells #[zI 2,zU ch,zI seq,zO,zI op,zI arg,zO,zN,zO,zO,zE,zN] 104);have ca:Hid (ED (parts R S T U (Dv d) (Dz b d.st ae L) (Hy b d.tb ad af [(ch,cw,l)] []) (EP d.ca ac room uses Y) (FZ ab d.jp num half)) (w.alloc (.cells #[zI 2,zU ch,zI seq,zO,zI op,zI arg,zO,zN,zO,zO,zE,zN] 104)) o):=Lh (h.AB ck);have dm:Hid (Ew (some b) o o w (w.alloc (.cells #[zI 2,zU ch,zI seq,zO,zI op,zI arg,zO,zN,zO,zO,zE,zN] 104))):=Lh (Ew.refl.AB ck);have ar:Hid (Loc o (w.alloc (.cells #[zI 2,zU ch,zI seq,zO,zI op,zI arg,zO,zN,zO,zO,zE,zN] 104)) w.heap.size 104 #[zI 2,zU ch,zI seq,zO,zI op,zI arg,zO,zN,zO,zO,zE,zN]):=Lh (Loc.new h _ (by decide) (by decide));have fo:=Lh cr;have bj:=Lh cs;have bu:=Lh (Bf hx (Bf ct en));have fq:=Lh ha;have bi:=Lh (Bf ef eg);have an:=Lh (Bf er el);have dl:=Lh (Bf ev ew);have bn:=Lh (Bf fd (Bf fe (Bf ff fg)));have fi:=Lh fun(W:Bc) (gm:Nat->Nat) (cq:ED (parts R S T U (Dv d) (Dz b d.st ae L) (Hy b d.tb ad af [(ch,cw,seq)] []) (EP d.ca ac room uses Y) (FZ ab d.jp num half)) W gm)=>Ui (jn:=4) (js:=5) (jt:=6) (jc:=7) cq rfl cs rfl rfl rfl (by decide) (by decide) cr hx fb ha es K eh ei eo ex eb eu
 have ez:G9 (x.add arg):=⟨by have:=hx.v0;have:=ha.a0;show 0<=x.value+arg;omega,ct,hx.n0,hx.n1,hx.o0,hx.o8,hx.may⟩
 have fx:=Lh ez;clear ez h cs ef eg cr hx fb ha es K eh ei eo ex eb eu ev ew ct en er el fd fe ff fg ck;go_in;go_upto_region 1 with(fail)
 obtain⟨hs,fa⟩:∃ r,r=w.heap.size:=⟨_,rfl⟩
 generalize w.alloc (.cells #[zI 2,zU ch,zI seq,zO,zI op,zI arg,zO,zN,zO,zO,zE,zN] 104)=ag at ar ca dm ⊢;rw[<- fa] at ar ⊢;clear fa;obtain⟨cz,cy,cx,da,n⟩:=ca.out.node (j:=4) rfl;have fh:Cl ag d.nb 1 (zP d.tb):=n.BR.cell 1;have bq:Cl ag hs 1 (zU ch):=ar.out.BR.cell 1;have fc:Cl ag hs 2 (zI seq):=ar.out.BR.cell 2;clear n cz cy cx da;refine GZ (fun W=>Cl W d.nb 1 (zP d.tb)/\Cl W hs 1 (zU ch)/\Cl W hs 2 (zI seq)) ⟨fh,bq,fc⟩ fun hr=>?_
 have dj:=Lh (ca.out.AB (T0 ag).drew);have dp:=Lh (ar.out.AB (T0 ag).drew);have dn:=Lh (dm.out.AB (T0 ag).drew);clear fh bq fc;generalize ag.drew=hp at dj dp dn hr ⊢;refine hq 0 13 hr ?_;refine hq 1 14 hr ?_;refine hq 2 15 hr ?_;refine hq 3 16 hr ?_;refine hq 4 17 hr ?_;refine hq 5 18 hr ?_;refine hq 6 19 hr ?_;refine hq 7 20 hr ?_;refine hq 8 21 hr ?_;have fm:=Lh (eO dj.out (j:=6) rfl (Ry bn.out.1 bn.out.2.1 bn.out.2.2.1 bn.out.2.2.2 rfl rfl rfl rfl) fo.out seq dl.out.1 dl.out.2);refine Gg 9 fun hy hv=>?_
 go_simp;refine fm.out.mono ?_;rintro e M ⟨rfl,gh,cl,cn⟩;have fs:Hid (ED (parts R S T U (Dv d) (Dz b d.st ae L) (Hy b d.tb ad af [(ch,cw,seq)] []) (EP d.ca ac room uses Y) (FZ ab d.jp num half)) M gh):=Lh cl;have P:=Lh (dp.out.stay cn);have fu:=Lh (dn.out.trans cn);have bt:Hid (Cl M d.nb 1 (zP d.tb)/\Cl M hs 1 (zU ch)/\Cl M hs 2 (zI seq)):=Lh ⟨by obtain⟨cz,cy,cx,da,n⟩:=cl.node (j:=4) rfl;exact n.BR.cell 1,P.out.BR.cell 1,P.out.BR.cell 2⟩;clear cl cn;go_wp2;refine hv.out _ _ (bt.out) fun hr=>?_
 clear hv hy;refine hq 10 6 hr ?_;refine zw ?_;clear hr;have bq:Cl M hs 1 (zU ch):=P.out.BR.cell 1;have bb:Cl M hs 3 zO:=P.out.BR.cell 3;have bc:Cl M hs 4 (zI op):=P.out.BR.cell 4;have bd:Cl M hs 5 (zI arg):=P.out.BR.cell 5;have be:Cl M hs 6 zO:=P.out.BR.cell 6;have bf:Cl M hs 7 (zN):=P.out.BR.cell 7;go_upto_region 5 with(go_at_call 191;refine(fi.out _ _ fs.out).mono ?_;rintro e m ⟨hf,C,u2,al,rfl,em,ee,ey,ed,ec,br,dw,co⟩;have q:=Lh (Bf em (Bf ee (Bf ey (Bf ed ec))));have ap:Hid (ED (parts R S T U (Dv d) (Dz b d.st ae L) (Hy b d.tb ad af [(ch,cw,seq)] []) (EP d.ca ac room u2 al) (FZ ab d.jp num half)) m br):=Lh dw;have aa:=Lh (P.out.stay co);have bm:=Lh (fu.out.trans co.weak);clear em ee ey ed ec dw co)
 clear bq bb bc bd be bf;rcases Vo q.out.2.1 with rfl|rfl|rfl
 ·go_wp2;go_ret2;exact⟨2,C,u2,al,12,0,num,half,x,rfl,⟨q.out.1,q.out.2.1,q.out.2.2.1,q.out.2.2.2.1,q.out.2.2.2.2,by omega,an.out.2,.inl ⟨rfl,rfl,rfl,rfl⟩⟩,by rw[NU bj.out];exact⟨br,ap.out,bm.out⟩⟩
 ·go_wp2;go_ret2;exact⟨0,C,u2,al,13,0,num,half,x,rfl,⟨q.out.1,q.out.2.1,q.out.2.2.1,q.out.2.2.2.1,q.out.2.2.2.2,by omega,an.out.2,.inr (.inl ⟨rfl,rfl,rfl,rfl⟩)⟩,by rw[NU bj.out];exact⟨br,ap.out,bm.out⟩⟩
 ·go_upto_region 11 with(fail)
  obtain⟨cz,cy,cx,da,n⟩:=ap.out.node (j:=4) rfl;have et:=n.ro;rw[bj.out] at et;obtain⟨g,a,c,hi,hk,hj,hl,hg,hh,rfl,ep,gi,gj,gl⟩:=et;have de:=Lh ep;have aj:Cl m d.nb 9 (zI d.boot):=n.BR.cell 9;have ai:Cl m d.nb 10 (zS g a 1 c):=n.BR.cell 10;have ak:=Lh (Bf aj ai);have bb:Cl m hs 3 zO:=aa.out.BR.cell 3;have bc:Cl m hs 4 (zI op):=aa.out.BR.cell 4;have bd:Cl m hs 5 (zI arg):=aa.out.BR.cell 5;have be:Cl m hs 6 zO:=aa.out.BR.cell 6;have bf:Cl m hs 7 (zN):=aa.out.BR.cell 7;have db:=Lh fun W (hv:Au m W)=>gT c W bi.out.1 bi.out.2 (de.out.AB hv) bu.out.1 fq.out bu.out.2.1
  clear n ep gi gj gl;go_cut [8,9,10] fun gp gq go W=>∃ i v u z I J,gp=zO/\gq=zP i/\go=zI (x.value+arg)/\Au m W/\AX W i 36 #[zI d.boot,zS v 0 1 1]/\Er W v 0 u 0 z 0 I J (x.add arg)/\m.heap.size<=v/\m.heap.size<=u/\m.heap.size<=z/\m.heap.size<=i
  case first =>
   refine GZ (fun W=>Cl W d.nb 9 (zI d.boot)/\Cl W d.nb 10 (zS g a 1 c)/\Cl W hs 3 zO/\Cl W hs 4 (zI op)/\Cl W hs 5 (zI arg)/\Cl W hs 6 zO/\Cl W hs 7 (zN)) ⟨aj,ai,bb,bc,bd,be,bf⟩ fun hr=>?_
   have O:Hid (Au m m.drew):=Lh (Aa _ _).drew;have D:Hid (Au m.drew m.drew):=Lh (Aa _ _);clear aj ai bb bc bd be bf;generalize m.drew=ah at O D hr ⊢;have f:=Lh hr;refine hq 0 46 hr ?_;refine hq 1 47 hr ?_;refine hq 2 48 hr ?_;refine hq 3 49 hr ?_;refine hq 4 50 hr ?_;refine hq 5 51 hr ?_;refine hq 6 52 hr ?_;refine hq2 7 12 rfl rfl (fun hy hv=>?_) fun hy hv=>?_
   ·go_simp;refine(db.out _ (O.out.to D.out)).mono ?_;rintro e N ⟨v,u,z,I,J,rfl,F,t⟩;have hu:=Lh (D.out.to t);have E:=Lh (Qn F);have Z:Hid (m.heap.size<=v/\m.heap.size<=u/\m.heap.size<=z):=Lh (by have ay:=(O.out.to D.out).size;have gc:=BQ F.e (show(Value.slice (some (zA u 0)) 1 I).ownBlock=some u from by rfl);have gd:=BQ F.s (show(Value.slice (some (zA z 0)) 1 J).ownBlock=some z from by rfl);have:=F.ge;omega);clear t F;go_wp2;refine hv.out _ _ ⟨Ae f.out.1 hu.out,Ae f.out.2.1 hu.out,Ae f.out.2.2.1 hu.out,Ae f.out.2.2.2.1 hu.out,Ae f.out.2.2.2.2.1 hu.out,Ae f.out.2.2.2.2.2.1 hu.out,Ae f.out.2.2.2.2.2.2 hu.out⟩ fun hr=>?_
    clear hv hy;refine hq 8 45 hr ?_;refine hq 9 54 hr ?_;refine hq 10 55 hr ?_;refine hq 11 56 hr ?_;refine Gg 12 fun hy hv=>?_
    go_simp;refine hv.out _ _ ⟨Ae f.out.1 (hu.out.to ((T0 _).alloc _)),Ae f.out.2.1 (hu.out.to ((T0 _).alloc _)),Ae f.out.2.2.1 (hu.out.to ((T0 _).alloc _)),Ae f.out.2.2.2.1 (hu.out.to ((T0 _).alloc _)),Ae f.out.2.2.2.2.1 (hu.out.to ((T0 _).alloc _)),Ae f.out.2.2.2.2.2.1 (hu.out.to ((T0 _).alloc _)),Ae f.out.2.2.2.2.2.2 (hu.out.to ((T0 _).alloc _))⟩ fun hr=>?_
    clear hv hy;have A:=Lh (hu.out.to ((T0 N).alloc (.cells #[zO,zN] 36)));have B:Hid (AX (N.alloc (.cells #[zO,zN] 36)) N.heap.size 36 #[zO,zN]):=Lh (AX.new N _ _);have Q:Hid (m.heap.size<=N.heap.size):=Lh (O.out.to hu.out).size;have E:=Lh (E.out.AB ((T0 N).alloc (.cells #[zO,zN] 36)));generalize N.alloc (.cells #[zO,zN] 36)=hc at A B E hr ⊢;generalize N.heap.size=i at B Q ⊢;refine Gg 13 fun hy hv=>?_
    rw[AQ (by rfl)];refine Ck (.tmp 9) (.tmp 54) rfl rfl rfl B.out JH rfl (by simp[Value.oneCell']) ?_;intro V hw ay;clear ay;rw[CZ (by rfl)];have bv:Hid (Au m _):=Lh ((O.out.to A.out).AJ hw fun k t e=>by have:=Q.out;omega);obtain⟨ce,av⟩:=E.out.b2;obtain⟨cf,aw⟩:=E.out.b3;obtain⟨cd,au⟩:=E.out.b1;have bx:=Lh (E.out.far hw (fun(e:v=i)=>by subst e;exact au.GJ B.out (by decide) rfl) (fun(e:u=i)=>by subst e;exact av.GJ B.out (by decide) rfl) fun(e:z=i)=>by subst e;exact aw.GJ B.out (by decide) rfl);have bs:=Lh V;clear V au av aw cd ce cf;refine hv.out _ _ (by(try dsimp only);have ba:=Kg (Ae f.out.1 A.out);have G:=Kg (Ae f.out.2.2.1 A.out);have az:=Kg ak.out.1;have hd:=aa.out.BR.lt;have cu:=Q.out;exact⟨(hw.cell (p:=zA d.nb 9) ba fun(e:d.nb=i)=>by(try dsimp only at az);omega).trans (Ae f.out.1 A.out),(hw.cell (p:=zA d.nb 10) ba fun(e:d.nb=i)=>by(try dsimp only at az);omega).trans (Ae f.out.2.1 A.out),(hw.cell (p:=zA hs 3) G fun(e:hs=i)=>by omega).trans (Ae f.out.2.2.1 A.out),(hw.cell (p:=zA hs 4) G fun(e:hs=i)=>by omega).trans (Ae f.out.2.2.2.1 A.out),(hw.cell (p:=zA hs 5) G fun(e:hs=i)=>by omega).trans (Ae f.out.2.2.2.2.1 A.out),(hw.cell (p:=zA hs 6) G fun(e:hs=i)=>by omega).trans (Ae f.out.2.2.2.2.2.1 A.out),(hw.cell (p:=zA hs 7) G fun(e:hs=i)=>by omega).trans (Ae f.out.2.2.2.2.2.2 A.out)⟩) fun hr=>?_
    clear hv hy;clear hw;refine hq 14 10 hr ?_;refine hq 15 8 hr ?_;refine zw ?_;clear hr;go_wp2;go_meet;exact⟨i,v,u,z,I,J,rfl,rfl,rfl,bv.out,bs.out,bx.out,Z.out.1,Z.out.2.1,Z.out.2.2,Q.out⟩
   ·go_simp;refine hv.out _ _ ⟨Ae f.out.1 (D.out.to ((T0 _).alloc _)),Ae f.out.2.1 (D.out.to ((T0 _).alloc _)),Ae f.out.2.2.1 (D.out.to ((T0 _).alloc _)),Ae f.out.2.2.2.1 (D.out.to ((T0 _).alloc _)),Ae f.out.2.2.2.2.1 (D.out.to ((T0 _).alloc _)),Ae f.out.2.2.2.2.2.1 (D.out.to ((T0 _).alloc _)),Ae f.out.2.2.2.2.2.2 (D.out.to ((T0 _).alloc _))⟩ fun hr=>?_
    clear hv hy;have A:=Lh (D.out.to ((T0 ah).alloc (.cells #[zO,zN] 36)));have B:Hid (AX (ah.alloc (.cells #[zO,zN] 36)) ah.heap.size 36 #[zO,zN]):=Lh (AX.new ah _ _);have Q:Hid (m.heap.size<=ah.heap.size):=Lh (O.out.to D.out).size;generalize ah.alloc (.cells #[zO,zN] 36)=hc at A B hr ⊢;generalize ah.heap.size=i at B Q ⊢;refine Gg 7 fun hy hv=>?_
    go_simp;refine(db.out _ (O.out.to A.out)).mono ?_;rintro e N ⟨v,u,z,I,J,rfl,F,t⟩;have hu:=Lh (A.out.to t);have E:=Lh (Qn F);have Z:Hid (m.heap.size<=v/\m.heap.size<=u/\m.heap.size<=z):=Lh (by have ay:=(O.out.to A.out).size;have gc:=BQ F.e (show(Value.slice (some (zA u 0)) 1 I).ownBlock=some u from by rfl);have gd:=BQ F.s (show(Value.slice (some (zA z 0)) 1 J).ownBlock=some z from by rfl);have:=F.ge;omega);have B:=Lh (B.out.Ab t id);clear t F;go_wp2;refine hv.out _ _ ⟨Ae f.out.1 hu.out,Ae f.out.2.1 hu.out,Ae f.out.2.2.1 hu.out,Ae f.out.2.2.2.1 hu.out,Ae f.out.2.2.2.2.1 hu.out,Ae f.out.2.2.2.2.2.1 hu.out,Ae f.out.2.2.2.2.2.2 hu.out⟩ fun hr=>?_
    clear hv hy;refine hq 8 45 hr ?_;refine hq 9 54 hr ?_;refine hq 10 55 hr ?_;refine hq 11 56 hr ?_;refine Gg 13 fun hy hv=>?_
    rw[AQ (by rfl)];refine Ck (.tmp 9) (.tmp 54) rfl rfl rfl B.out JH rfl (by simp[Value.oneCell']) ?_;intro V hw ay;clear ay;rw[CZ (by rfl)];have bv:Hid (Au m _):=Lh ((O.out.to hu.out).AJ hw fun k t e=>by have:=Q.out;omega);obtain⟨ce,av⟩:=E.out.b2;obtain⟨cf,aw⟩:=E.out.b3;obtain⟨cd,au⟩:=E.out.b1;have bx:=Lh (E.out.far hw (fun(e:v=i)=>by subst e;exact au.GJ B.out (by decide) rfl) (fun(e:u=i)=>by subst e;exact av.GJ B.out (by decide) rfl) fun(e:z=i)=>by subst e;exact aw.GJ B.out (by decide) rfl);have bs:=Lh V;clear V au av aw cd ce cf;refine hv.out _ _ (by(try dsimp only);have ba:=Kg (Ae f.out.1 hu.out);have G:=Kg (Ae f.out.2.2.1 hu.out);have az:=Kg ak.out.1;have hd:=aa.out.BR.lt;have cu:=Q.out;exact⟨(hw.cell (p:=zA d.nb 9) ba fun(e:d.nb=i)=>by(try dsimp only at az);omega).trans (Ae f.out.1 hu.out),(hw.cell (p:=zA d.nb 10) ba fun(e:d.nb=i)=>by(try dsimp only at az);omega).trans (Ae f.out.2.1 hu.out),(hw.cell (p:=zA hs 3) G fun(e:hs=i)=>by omega).trans (Ae f.out.2.2.1 hu.out),(hw.cell (p:=zA hs 4) G fun(e:hs=i)=>by omega).trans (Ae f.out.2.2.2.1 hu.out),(hw.cell (p:=zA hs 5) G fun(e:hs=i)=>by omega).trans (Ae f.out.2.2.2.2.1 hu.out),(hw.cell (p:=zA hs 6) G fun(e:hs=i)=>by omega).trans (Ae f.out.2.2.2.2.2.1 hu.out),(hw.cell (p:=zA hs 7) G fun(e:hs=i)=>by omega).trans (Ae f.out.2.2.2.2.2.2 hu.out)⟩) fun hr=>?_
    clear hv hy;clear hw;refine hq 14 10 hr ?_;refine hq 15 8 hr ?_;refine zw ?_;clear hr;go_wp2;go_meet;exact⟨i,v,u,z,I,J,rfl,rfl,rfl,bv.out,bs.out,bx.out,Z.out.1,Z.out.2.1,Z.out.2.2,Q.out⟩
  case rest =>
  obtain⟨i,v,u,z,I,J,rfl,rfl,rfl,t,V,eq,ek⟩:=hcut;clear aj ai bb bc bd be bf;have bk:=Lh t;have dq:=Lh V;have df:=Lh eq;have fp:=Lh ek;clear t V eq ek;go_upto_region 14 with(fail)
  have aj:=Ae ak.out.1 bk.out;have ai:=Ae ak.out.2 bk.out;have fl:=Lh fun W (hv:Au wc W)=>Y4 (boot:=d.boot) c 1 W ((de.out.AB bk.out).AB hv) (df.out.AB hv)
  refine GZ (fun W=>Cl W d.nb 9 (zI d.boot)/\Cl W d.nb 10 (zS g a 1 c)/\AX W i 36 #[zI d.boot,zS v 0 1 1]) ⟨aj,ai,dq.out.drew⟩ fun hr=>?_
  have dc:=Lh bk.out.drew;have dd:Hid (Au wc wc.drew):=Lh (Aa _ _).drew;have dr:=Lh dq.out.drew;have dg:=Lh (df.out.AB (T0 wc).drew);clear aj ai;generalize wc.drew=N at dc dd dr dg hr ⊢;refine hq 0 60 hr ?_;refine hq 1 61 hr ?_;refine hq 2 62 hr ?_;refine hq 3 63 hr ?_;refine hq 4 64 hr ?_;refine hq 5 65 (hx:=fun W cq=>Ce (.tmp 9) rfl rfl cq.2.2 Tryz.underlying36 rfl JH) hr ?_;refine Gg 6 fun hy hv=>?_
  go_simp;refine(fl.out _ dd.out).mono ?_;rintro e gy ⟨rfl,t⟩;have am:=Lh (dc.out.to t);have cb:=Lh (dr.out.Ab t id);have dh:=Lh (dg.out.AB t);have bt:=Lh (Bf (Ae ak.out.1 am.out) (Bf (Ae ak.out.2 am.out) cb.out));clear t;go_wp2;refine hv.out _ _ (bt.out) fun hr=>?_
  clear hv hy;refine zw ?_;clear hr;by_cases cj:arg=0
  ·rw[BH cj];go_wp2;go_ret2;refine⟨1,C,u2,al,0,x.value+arg,num,half,x.add arg,rfl,⟨q.out.1,q.out.2.1,q.out.2.2.1,q.out.2.2.2.1,q.out.2.2.2.2,by omega,an.out.2,.inr (.inr ⟨rfl,rfl,rfl,rfl⟩)⟩,?_⟩;have e:x.add arg=x:=by rw[cj];unfold DZ.add;rw[Int.add_zero]
   rw[e,NU bj.out];exact⟨br,ap.out.AB am.out,bm.out.AB am.out⟩
  ·rw[BC cj];have fj:=Lh fun W (hv:Au gy W)=>MC d.boot (some (zA v 0)) 1 1 (some (x.add arg)) W bi.out.1 bi.out.2 ⟨v,0,1,u,0,z,0,I,J,rfl,dh.out.AB hv⟩ fun y gg=>by cases gg;exact fx.out
   go_upto_region 19 with(first
    |(refine AA rfl (.tmp 9) rfl rfl cb.out Tryz.underlying36 rfl JH ?_)
    |(go_at_call 46;refine(fj.out _ (Aa _ _)).mono ?_;rintro e gz ⟨rfl,t⟩;have fr:=Lh (am.out.to t);have ds:=Lh (cb.out.Ab t id);have bw:=Lh (dh.out.AB t);clear t))
   obtain⟨X,cm,dz,ax,ge⟩:=ap.out.claim fr.out 4;obtain⟨gv,gt,gr,gw,du⟩:=cm.node (j:=4) rfl;have he:Cl gz d.nb 7 (zP d.jp):=du.BR.cell 7;have ft:=Lh cm;have fv:=Lh (bm.out.trans dz.weak);have ao:Hid (X v=5/\X u=5/\X z=5/\X i=5):=Lh (by
    have K:=bw.out.lt;have cu:=ds.out.lt;have bp:=fp.out;exact⟨ax _ bp.1 K.1,ax _ bp.2.1 K.2.1,ax _ bp.2.2.1 K.2.2,ax _ bp.2.2.2 cu⟩)
   have fk:=Lh (TT (x:=none) (j:=8) ft.out rfl an.out.2 an.out.1 (Dy (FM d.boot (some (x.add arg)))) (by rw[E5];exact bu.out.2.2) (by rw[E5];exact Qm));clear cm dz ax ge du gv gt gr gw;go_upto_region 24 with(go_at_call 48;(refine fk.out.mono ?_;rintro e hb ⟨rfl,cp,bg,dx,ea,bo⟩;have dk:Hid (ED (parts R S T U (Dv d) (Dz b d.st ae L) (Hy b d.tb ad af [(ch,cw,seq)] []) (EP d.ca ac room u2 al) (FZ ab d.jp (num+1) (1-half))) hb bg):=Lh dx;have fw:=Lh (fv.out.trans ea.weak);have fy:=Lh (ds.out.Ab cp fun(e:X i=9)=>by have:=ao.out.2.2.2;omega);have bl:=Lh (bw.out.far cp (fun(e:X v=9)=>by have:=ao.out;omega) (fun(e:X u=9)=>by have:=ao.out;omega) fun(e:X z=9)=>by have:=ao.out;omega);have bz:Hid (bg v=5/\bg u=5/\bg z=5):=Lh (by have K:=bw.out.lt;have:=ao.out;exact⟨(bo _ K.1).trans this.1,(bo _ K.2.1).trans this.2.1,(bo _ K.2.2).trans this.2.2.1⟩);clear dx ea cp bo))
   clear he;obtain⟨hn,gu,gs,gx,dv⟩:=dk.out.node (j:=4) rfl;have di:=Lh dv;clear dv;go_wp2_with (first
    |(refine AA rfl (.tmp 9) rfl rfl fy.out Tryz.underlying36 rfl JH ?_)
    |(refine IX rfl (.tmp 95) (.tmp 92) rfl 9 rfl rfl di.out.BR JH (Nat.le_of_ble_eq_true rfl) (by simp[Value.oneCell']) rfl ?_;intro ho dt dy;have fn:=Lh dt;have aq:=Lh dy;clear dt dy))
   go_ret2;refine⟨1,C,u2,al,0,x.value+arg,num+1,1-half,x.add arg,rfl,⟨q.out.1,q.out.2.1,q.out.2.2.1,q.out.2.2.2.1,q.out.2.2.2.2,by omega,by omega,.inr (.inr ⟨rfl,rfl,rfl,rfl⟩)⟩,FE.trans fw.out ?_⟩;have n:=di.out;have ej:bg d.nb=5:=n.f;obtain⟨_,fz⟩:=bl.out.b1;obtain⟨_,ga⟩:=bl.out.b2;obtain⟨_,gb⟩:=bl.out.b3;have gf:=bl.out.far aq.out (fz.GJ n.BR (by decide)) (ga.GJ n.BR (by decide)) (gb.GJ n.BR (by decide));refine dk.out.upd 4 (Dv {d with ob:=some (x.add arg)}) (aq.out.mono fun k _ e=>by rw[show k=d.nb from e];exact ej) ⟨zS v 0 1 1,gu,gs,gx,fn.out,.inl ej,⟨v,0,1,u,0,z,0,I,J,rfl,gf,.inl bz.out.1,.inl bz.out.2.1,.inl bz.out.2.2⟩,?_,?_,?_⟩
   ·exact⟨Aj n.rl.1 aq.out fun H hq e=>Ba n.rl.1 n.BR (by decide) (by rw[hq,show H=d.nb from e]),fun H hq=>.inl (n.rl.2 H hq)⟩
   ·exact⟨Aj n.rc.1 aq.out fun H hq e=>Ba n.rc.1 n.BR (by decide) (by rw[hq,show H=d.nb from e]),fun H hq=>.inl (n.rc.2 H hq)⟩
   ·exact⟨Aj n.rr.1 aq.out fun H hq e=>Ba n.rr.1 n.BR (by decide) (by rw[hq,show H=d.nb from e]),fun H hq=>.inl (n.rr.2 H hq)⟩
end

structure Wrote (M M':List Led.Made) (x:Led.Made):Prop where
 len:M'.length<=M.length+1
 has:x∈M'
 sub:∀ y∈M,y∈M'
section
variable {x:Option Nat} {cs:List Eb} {o o':Nat->Nat} {w W W':Bc} {d:Fb} {S:List Led.Vl} {M:List Led.Made} {T:List Int}
theorem YU {m:Led.Zf} {y:Int} (hk:m.1/8192=2/\(m.2.1=0∨m.2.1=1)/\0<=m.2.2.1/\0<=y) (c:M.length<2000):Wrote M (Led.Ld M m y).2 (m,y):=by
 unfold Led.Ld;rw[AQ hk];by_cases b:Led.hasB (m,y) M=true
 ·rw[AQ b];exact⟨by simp,Led.aA.1 b,fun _ a=>a⟩
 ·rw[Bg b,AQ c];exact⟨by simp,by simp,fun _ a=>by simp[a]⟩
theorem PW {jb jn C:Nat} (f:ED cs w o) (N:cs[jb]?= some (Eg C S M T)) (U:cs[jn]?= some (Dv d)) (Q:d.kb=C) (ad:jn≠jb) (g h m n p q r t u v i l:Value) (D ch b seq:Int) (s c:BB) (O:Ey ch) (A:ch/8192=2) (P:b=0∨b=1) (X:0<=seq) (hs1:seq<=1000) (ae:c.size<=4000) (V:0<=d.num) (ac:d.num<=2) (R:M.length<2000)
  (H:∀ W,Calls Tryz.prog 66 #[.agg #[g,h,m,n,p,q,r,t,u,v,i,l]] W (Rt (.tuple #[.agg #[zU ch,zI b,zI seq,.string c],zO]) (Au W)))
  (G:∀ W,Calls Tryz.prog 63 #[.agg #[g,h,m,n,p,q,r,t,u,v,i,l]] W (Rt (.tuple #[.string s,zO]) (Au W))) :
  Calls Tryz.prog 101 #[zP d.nb,zI D,.agg #[g,h,m,n,p,q,r,t,u,v,i,l]] w (Rt (.agg #[zI d.num,zI D,.string s]) fun w'=>Am (fun k=>o k=jb+1) w w'/\∃ E,Wrote M E ((ch,b,seq,c),d.num)/\FE x (cs.set jb (Eg C S E T)) o w w'):=by
 subst Q;obtain⟨ah,ag,af,ai,z⟩:=f.node U;have J:=f.book N;have aa:o d.nb=jn+1:=z.f;refine(VX (fun k=>o k=jb+1) (fun W w'=>Led.GK w' (Led.Grow (fun k=>o k=jb+1) W w') d.kb S (Led.Ld M (ch,b,seq,c) d.num).2 T) g h m n p q r t u v i l d.nb d.kb d.num D ch b seq s c w (z.BR.cell 3) (z.BR.cell 8) z.BR.lt (fun k a=>⟨f.lt a,fun e=>by subst e;omega⟩) H (fun W y=>(Led.nI _ _ S M T (ch,b,seq,c) d.num W ⟨O,⟨by show -9223372036854775808<=b;omega,by show b<=9223372036854775807;omega⟩,⟨by show -9223372036854775808<=seq;omega,by show seq<=9223372036854775807;omega⟩,by show c.size<=maxLen;unfold maxLen;omega⟩ ⟨by omega,by omega⟩ (by omega) (J.AB y)).mono (by rintro e w' ⟨rfl,I,A⟩;exact⟨⟨_,rfl⟩,I,A⟩)) G).mono ?_;rintro e w' ⟨Y,Z,rfl,y,ab,K,L,B⟩;have F:Am (fun k=>o k=jb+1) w w':=(Am.back y L).AJ B fun k a e=>by omega
 refine⟨rfl,F,_,YU ⟨A,P,X,V⟩ R,f.upd jb _ F ?_⟩;refine Led.GK.wider (K.Ab B fun k a e=>?_) fun k a=>?_
 ·rcases a with a|a
  ·have:=f.lt (j:=jb) a;omega
  ·omega
 ·rcases a with a|a
  ·exact .inl a
  ·exact .inr ⟨AV y.size a.1,Bj a.2 B.size⟩
theorem OG {jb jn s:Nat} (q:ED cs w o) (B:cs[jb]?= some (Eg s S M T)) (G:cs[jn]?= some (Dv d)) (D:d.kb=s) (c e h i j k l m n p f g:Value) (ch a seq y:Int) (b:BB) (E:M.length<=2000) (F:((ch,a,seq,b),y)∈M)
  (u:∀ W,Calls Tryz.prog 66 #[.agg #[c,e,h,i,j,k,l,m,n,p,f,g]] W (Rt (.tuple #[.agg #[zU ch,zI a,zI seq,.string b],zO]) (Au W))) :
  Calls Tryz.prog 146 #[zP d.nb,.agg #[c,e,h,i,j,k,l,m,n,p,f,g]] w (Rt (.bool true) (Au w)):=by
 subst D;obtain⟨L,K,J,N,r⟩:=q.node G;have x:=q.book B;refine UX c e h i j k l m n p f g d.nb d.kb ch a seq b w (r.BR.cell 8) r.BR.lt (fun W _=>u W) fun W z=>(Led.nJ _ _ S M T ch a seq b W E (x.AB z)).mono ?_
 rintro H O ⟨I,rfl,A,C⟩;obtain⟨t,v,rfl⟩:=BD A;refine⟨t,_,v,rfl,?_,C⟩;unfold Led.Ih;rw[Be];exact List.length_pos_of_mem (List.mem_filter.2 ⟨F,by simp⟩)
theorem Qo {ch seq er v:Int} (a:Ey ch) (hs1:seq<=1000) (g:er<=100) (h:v<=1000000):(Dy (Fg ch seq er v)).size<=50:=by
 have b:=BS (n:=3) (by omega);have c:=BS (n:=ch.toNat) (by have:=a.2;omega);have d:=BS (n:=seq.toNat) (by omega);have e:=BS (n:=er.toNat) (by omega);have f:=BS (n:=v.toNat) (by omega);rw[E5];unfold Fg;simp only[Ap];omega
theorem QN {ch seq op arg:Int} (a:Ey ch) (hs1:seq<=1000) (ha:G8 op arg):(Dy (F8 ch seq op arg)).size<=70:=by
 have b:=BS (n:=2) (by omega);have c:=BS (n:=ch.toNat) (by have:=a.2;omega);have d:=BS (n:=seq.toNat) (by omega);have e:=BS (n:=0) (by omega);have f:=BS (n:=op.toNat) (by have:=ha.o;omega);have g:=BS (n:=arg.toNat) (by have:=ha.a1;omega);rw[E5];unfold F8;simp only[Ap];omega
def nR (n p q:Eb) (S:List Led.Vl) (M:List Led.Made) (T:List Int) (b u t s num half:Nat) (v y room uses ch seq arg fr:Int) (cw:List BB) (Y:List (Iu × Int)) (L:List Ca) (d:Fb) (x:DZ) (w:Bc) (o:Nat->Nat) (e:Ending) (w':Bc):Prop :=
 ∃ r m k g a c j i l f h o',e= .returned (zS h 0 1 1)/\gB d x cw arg L uses Y num r m k g a c j i l/\Wrote M f ((ch,1,seq,Dy (Fg ch seq a c)),d.num)/\ED (parts n (Eg d.kb S f T) p q (Dv {d with ob:=some l}) (Dz b d.st v L) (Hy b d.tb u y [(ch,cw,seq)] []) (EP d.ca t room k g) (FZ s d.jp j i)) w' o'/\Ew (some b) o o' w w'/\Loc o' w' h 107 #[zI d.num,zI fr,.string (Dy (Fg ch seq a c))]
theorem Vx {b n m i num half:Nat} {p q room uses ch l seq op arg fr:Int} {cw:List BB} {Y:List (Iu × Int)} {L:List Ca} {f g h:Eb} {x:DZ} (bm:f.tab=false) (bn:g.tab=false) (bo:h.tab=false)
  (H:ED (parts f (Eg d.kb S M T) g h (Dv d) (Dz b d.st p L) (Hy b d.tb n q [(ch,cw,l)] []) (EP d.ca m room uses Y) (FZ i d.jp num half)) w o) (az:d.ob=some x) (ak:0<=d.boot) (al:d.boot<=40) (k:Ey ch) (hx:G9 x) (bi:x.op=op) (ha:G8 op arg) (ba:∀ c∈L,Cn c) (aq:L.length<=20) (am:D9 cw=true) (an:∀ s∈cw,s.size<=16) (au:∀ y∈Y,y.1.turn<(L.length:Int)) (bd:uses<=1000000) (aj:Y.length<=100) (bb:1<=room)
  (cu:0<=seq) (bc:l<seq) (be:x.value+arg<=1000000) (ar:(FM d.boot (some (x.add arg))).length<=32) (ay:num+1<256) (ap:half<=1) (hs1:seq<=1000) (t:ch/8192=2) (aw:0<=d.num) (ax:d.num<=2) (ce:M.length<1000) (y:Int) (av:((ch,0,seq,Dy (F8 ch seq op arg)),y)∈M) :
  Calls Tryz.prog 110 #[zP d.nb,zI fr,.agg #[zI 2,zU ch,zI seq,zO,zI op,zI arg,zO,zN,zO,zO,zE,zN]] w (nR f g h S M T b n m i num half p q room uses ch seq arg fr cw Y L d x w o):=by
 have J:=(T0 w).alloc (.cells #[zI 2,zU ch,zI seq,zO,zI op,zI arg,zO,zN,zO,zO,zE,zN] 104);have E:Hid (ED (parts f (Eg d.kb S M T) g h (Dv d) (Dz b d.st p L) (Hy b d.tb n q [(ch,cw,l)] []) (EP d.ca m room uses Y) (FZ i d.jp num half)) (w.alloc (.cells #[zI 2,zU ch,zI seq,zO,zI op,zI arg,zO,zN,zO,zO,zE,zN] 104)) o):=Lh (H.AB J);have X:Hid (Ew (some b) o o w (w.alloc (.cells #[zI 2,zU ch,zI seq,zO,zI op,zI arg,zO,zN,zO,zO,zE,zN] 104))):=Lh (Ew.refl.AB J);have B:Hid (Loc o (w.alloc (.cells #[zI 2,zU ch,zI seq,zO,zI op,zI arg,zO,zN,zO,zO,zE,zN] 104)) w.heap.size 104 #[zI 2,zU ch,zI seq,zO,zI op,zI arg,zO,zN,zO,zO,zE,zN]):=Lh (Loc.new H _ (by decide) (by decide));have bu:=Lh fun(W:Bc) (z:Nat->Nat) (u:ED (parts f (Eg d.kb S M T) g h (Dv d) (Dz b d.st p L) (Hy b d.tb n q [(ch,cw,l)] []) (EP d.ca m room uses Y) (FZ i d.jp num half)) W z)=>OG (jb:=1) (jn:=4) u rfl rfl rfl (zI 2) (zU ch) (zI seq) zO (zI op) (zI arg) zO (zN) zO zO (zE) (zN) ch 0 seq y (Dy (F8 ch seq op arg)) (by omega) av fun W=>Rj ch seq op arg W k t cu hs1 ha
 have bt:=Lh fun(W:Bc) (z:Nat->Nat) (u:ED (parts f (Eg d.kb S M T) g h (Dv d) (Dz b d.st p L) (Hy b d.tb n q [(ch,cw,l)] []) (EP d.ca m room uses Y) (FZ i d.jp num half)) W z)=>Y5 bm rfl bn bo u az ak al k hx bi ha ba aq am an au bd aj bb cu bc (by omega) ar ay ap
 have br:=Lh fun(W:Bc) (z:Nat->Nat) (cs:List Eb) (G:Fb) (a ct:Int) (ao:0<=a) (N:a<=100) (bf:0<=ct) (O:ct<=1000000) (u:ED cs W z) (cf:cs[1]?= some (Eg d.kb S M T)) (cg:cs[4]?= some (Dv G)) (cd:G.kb=d.kb) (ad:G.num=d.num)=>PW (x:=some b) (jb:=1) (jn:=4) u cf cg cd (by decide) (zI 3) (zU ch) (zI seq) zO zO zO zO (zN) (zI a) (zI ct) (zE) (zN) fr ch 1 seq (Dy (Fg ch seq a ct)) (Dy (Fg ch seq a ct)) k t (.inr rfl) cu hs1 (AV (Qo k hs1 N O) (by omega)) (by rw[ad];exact aw) (by rw[ad];exact ax) (by omega) (fun W=>PU ch seq a ct W k t cu hs1 ao N bf O) fun W=>M8 ch seq a ct W k t cu hs1 ao N bf O
 have ca:Hid (0<=x.value+arg/\x.value+arg<=1000000):=Lh ⟨by have:=hx.v0;have:=ha.a0;omega,be⟩;clear bm bn bo H az ak al k hx bi ha ba aq am an au bd aj bb cu bc be ar ay hs1 t aw ax ce av J;clear ap;go_in;go_upto_region 1 with(fail)
 obtain⟨bp,bh⟩:∃ r,r=w.heap.size:=⟨_,rfl⟩
 generalize w.alloc (.cells #[zI 2,zU ch,zI seq,zO,zI op,zI arg,zO,zN,zO,zO,zE,zN] 104)=cp at B E X ⊢;rw[<- bh] at B ⊢;clear bh;go_upto_region 3 with(first
  |(refine AA rfl (.tmp 5) rfl rfl B.out.BR Tryz.underlying104 rfl BM ?_)
  |(go_at_call 146;refine(bu.out _ _ E.out).mono ?_;rintro e cq ⟨rfl,cv⟩;have bv:=Lh (E.out.AB cv);have bw:=Lh (X.out.AB cv);have Z:=Lh (B.out.AB cv);clear cv))
 go_upto_region 4 with(first
  |(refine AA rfl (.tmp 5) rfl rfl Z.out.BR Tryz.underlying104 rfl BM ?_)
  |(go_at_call 150;refine(bt.out _ _ bv.out).mono ?_;rintro e A ⟨cc,C,u3,F,a,ct,P,I,D,rfl,hq,bj,ag,K⟩;have R:=Lh hq;have U:Hid (ED (parts f (Eg d.kb S M T) g h (Dv {d with ob:=some D}) (Dz b d.st p L) (Hy b d.tb n q [(ch,cw,seq)] []) (EP d.ca m room u3 F) (FZ i d.jp P I)) A bj):=Lh ag;have aa:=Lh (Z.out.stay K);have bx:=Lh (bw.out.trans K);clear hq ag K))
 obtain⟨cl,ck,cj,cm,af⟩:=U.out.node (j:=4) rfl;have cr:Cl A d.nb 6 (.bool false):=af.BR.cell 6;clear af cl ck cj cm;have cn:Cl A bp 1 (zU ch):=aa.out.BR.cell 1;have co:Cl A bp 2 (zI seq):=aa.out.BR.cell 2;have v:(0<=a/\a<=100)/\0<=ct/\ct<=1000000:=by
  have:=ca.out;rcases R.out.r with⟨_,rfl,rfl,_⟩|⟨_,rfl,rfl,_⟩|⟨_,rfl,rfl,_⟩<;>omega
 have bs:=Lh (br.out A bj _ {d with ob:=some D} a ct v.1.1 v.1.2 v.2.1 v.2.2 U.out rfl rfl rfl rfl);clear v;go_wp2_with (go_at_call 101;refine bs.out.mono ?_;rintro e Q ⟨rfl,-,ab,bg,bk,ah,ai⟩;have cb:=Lh bg;have V:Hid (ED (parts f (Eg d.kb S ab T) g h (Dv {d with ob:=some D}) (Dz b d.st p L) (Hy b d.tb n q [(ch,cw,seq)] []) (EP d.ca m room u3 F) (FZ i d.jp P I)) Q bk):=Lh ah;have bz:=Lh (bx.out.trans ai);clear bg ah ai);go_ret;have ae:=(T0 Q).alloc (.cells #[zI d.num,zI fr,.string (Dy (Fg ch seq a ct))] 107);exact⟨cc,C,u3,F,a,ct,P,I,D,ab,Q.heap.size,bk,rfl,R.out,cb.out,V.out.AB ae,bz.out.AB ae,Loc.new V.out _ (by decide) (by decide)⟩
end

def nK:List Value:=[zO,zO,zE]
theorem nD:(Builtin.zeroCells (Value.agg #[zO,zO,zE]).cells 1).toList=nK:=by kernel_rfl
theorem kS:(Tryz.prog.info? 107).map (fun i=>(i.zero,i.size,i.bytes))=some (some (.agg #[zO,zO,zE]),3,32):=by kernel_rfl
theorem TB {w:Bc} {base g c:Nat} {xs:List Value} (n:w.ownsRow base 107 3 (zS g 0 1 c) 1 xs) :
  Calls Tryz.prog 57 #[zS g 0 1 c,zO,zI 1] w (Rt (zS g 0 0 c) fun w'=>w'.ownsRow base 107 3 (zS g 0 0 c) 0 []/\Am (fun k=>k=g) w w'):=by
 obtain⟨V,f,T,l,U⟩:=info_parts kS;have y:=BQ n (g:=g) (by simp[Value.ownBlock]);have u:=Aj n ((T0 w).drew) fun _ _ j=>j
 have d:Tryz.prog.elem 89=107:=by simp[Program.elem,Tryz.underlying89]
 rcases u.2 with⟨j,_⟩|⟨Y,X,m,C,L,A,Q,z,B,ht⟩
 ·cases j
 have S:=C;injection S with o _ M;injection o with o;injection o with O;subst O M;unfold maxLen at z;obtain⟨i,x⟩:∃ i,(if c=1 then some ((zA g 0):Addr) else some (zA g 3))=some i:=by split<;>exact⟨_,rfl⟩
 have aa:∀ a,(Instr.slice 89 (zS g 0 1 c) none (some zO) none).run Tryz.prog a= .ok (zS g 0 0 c) a:=fun a=>by
  rw[run_slice_h a 89 _ _ c (by rw[d];exact Tryz.underlying89) .i64 0 (by omega) (by omega),d];simp[sizeOf,typeInfo,f,l,sliced,Addr.add_lit]
 have ab:∀ a,(Instr.slice 89 (zS g 0 1 c) (some (zI 1)) none none).run Tryz.prog a= .ok (.slice (some i) 0 (c-1)) a:=fun a=>by
  rw[run_slice_l a 89 _ _ c (by rw[d];exact Tryz.underlying89) .i64 1 (by omega) (by omega),d];simp[sizeOf,typeInfo,f,l,sliced,Addr.add_lit];exact x
 have K:∀ h,(Builtin.append_ #[89,89] h #[zS g 0 0 c,.slice (some i) 0 (c-1)]).run Tryz.prog w.drew= .ok (zS g 0 0 c) w.drew:=fun h =>
  run_append_room_cells (P:=Tryz.prog) (w:=w.drew) 89 h 107 V Tryz.underlying89 f g 0 0 c i 0 (c-1) [] (by simp) (fun D W t=>by simp at t) (fun W t=>by cases t) (by omega) (fun D r=>by simp at r) fun D r=>by simp at r
 have p:AX w.drew g 107 m:=A;have s:=run_storeCells_at Tryz.prog g 0 107 nK 0 m w.drew p (by show 0+0+3<=_;omega) (by simp[nK,Value.oneCell']);obtain⟨b,q⟩:∃ b,b=(m.toList.take (0+0)++nK++m.toList.drop (0+0+nK.length)).toArray:=⟨_,rfl⟩
 rw[<- q] at s;have N:∀ h,(Builtin.clear_ #[89] h #[zS g 0 1 c]).run Tryz.prog w.drew= .ok (.tuple #[]) (w.drew.setRow g b):=fun h=>by
  simp[Builtin.clear_,run_underlying Tryz.underlying89,nD,s]
 have F:Hid ((w.drew.setRow g b).ownsRow base 107 3 (zS g 0 0 c) 0 []/\Am (fun k=>k=g) w (w.drew.setRow g b)):=by
  have R:b.size=c*3:=by
   rw[q,EJ,Ap,Ap,BA,Cb,Ci,B];rw[show nK.length=3 from rfl];omega
  exact⟨⟨by simp,.inr ⟨g,c,b,rfl,y,GU p b,by omega,by unfold maxLen;omega,R,by simp⟩⟩,(Aa (fun k=>k=g) w).drew.AJ (EY w.drew g b) fun _ _ j=>j⟩
 obtain⟨E,Z⟩:∃ E,∀ a,(Instr.slice 89 (zS g 0 1 c) (some zO) (some (zI 1)) (some (zI 1))).run Tryz.prog a= .ok E a :=
  ⟨sliced (some (zA g 0)) 0 1 1 3,fun a=>by
   rw[run_slice_lhm a 89 _ _ c (by rw[d];exact Tryz.underlying89) .i64 .i64 .i64 0 1 1 (by omega) (by omega) (by omega) (by omega),d];simp[sizeOf,typeInfo,f,l]⟩
 have ac:∀ a,(Instr.slice 89 (zS g 0 0 c) (some zO) (some (zI 1)) none).run Tryz.prog a= .ok (zS g 0 1 c) a:=fun a=>by
  rw[run_slice_lh a 89 _ _ c (by rw[d];exact Tryz.underlying89) .i64 .i64 0 1 (by omega) (by omega) (by omega),d];have J:c≠0:=by omega
  simp[sizeOf,typeInfo,f,l,sliced,Addr.add_lit,J]
 clear f T l U d s q B p A ht u n y z Q x C L;go_in;go_wp2;refine GZ (fun a=>True) trivial fun e=>?_
 refine hq 0 20 e ?_;refine hq 1 21 e ?_;refine hq 2 22 e ?_;refine hq 3 23 e ?_;refine hq 4 24 e ?_;refine hq 5 25 e ?_;refine Gg 6 fun G v=>?_
 rw[AQ (by rfl)];refine wp_append_run (.tmp 22) (.tmp 25) 89 rfl rfl rfl (K _) ?_;rw[Ga 26 (by rfl)];dsimp only[Act.put,AZ,Bq,Bi];refine v.out _ _ trivial fun e=>?_
 clear v G;refine hq 7 0 e ?_;refine zw ?_;go_wp2_with (simp only[N]);go_ret;obtain⟨H,I⟩:=F.out;exact⟨rfl,H,I⟩
def nM:List Value:=[zO,zU 0,zO,zO,zO,zO,zO,zN,zO,zO,zE,zN]
theorem nE:(Builtin.zeroCells (Value.agg #[zO,zU 0,zO,zO,zO,zO,zO,zN,zO,zO,zE,zN]).cells 1).toList=nM:=by kernel_rfl
theorem kT:(Tryz.prog.info? 104).map (fun i=>(i.zero,i.size,i.bytes))=some (some (.agg #[zO,zU 0,zO,zO,zO,zO,zO,zN,zO,zO,zE,zN]),12,136):=by kernel_rfl
theorem ZL {w:Bc} {base g c:Nat} {xs:List Value} (n:w.ownsRow base 104 12 (zS g 0 1 c) 1 xs) :
  Calls Tryz.prog 149 #[zS g 0 1 c,zO,zI 1] w (Rt (zS g 0 0 c) fun w'=>w'.ownsRow base 104 12 (zS g 0 0 c) 0 []/\Am (fun k=>k=g) w w'):=by
 obtain⟨V,f,T,l,U⟩:=info_parts kT;have y:=BQ n (g:=g) (by simp[Value.ownBlock]);have u:=Aj n ((T0 w).drew) fun _ _ j=>j
 have d:Tryz.prog.elem 68=104:=by simp[Program.elem,Tryz.underlying68]
 rcases u.2 with⟨j,_⟩|⟨Y,X,m,C,L,A,Q,z,B,ht⟩
 ·cases j
 have S:=C;injection S with o _ M;injection o with o;injection o with O;subst O M;unfold maxLen at z;obtain⟨i,x⟩:∃ i,(if c=1 then some ((zA g 0):Addr) else some (zA g 12))=some i:=by split<;>exact⟨_,rfl⟩
 have aa:∀ a,(Instr.slice 68 (zS g 0 1 c) none (some zO) none).run Tryz.prog a= .ok (zS g 0 0 c) a:=fun a=>by
  rw[run_slice_h a 68 _ _ c (by rw[d];exact Tryz.underlying68) .i64 0 (by omega) (by omega),d];simp[sizeOf,typeInfo,f,l,sliced,Addr.add_lit]
 have ab:∀ a,(Instr.slice 68 (zS g 0 1 c) (some (zI 1)) none none).run Tryz.prog a= .ok (.slice (some i) 0 (c-1)) a:=fun a=>by
  rw[run_slice_l a 68 _ _ c (by rw[d];exact Tryz.underlying68) .i64 1 (by omega) (by omega),d];simp[sizeOf,typeInfo,f,l,sliced,Addr.add_lit];exact x
 have K:∀ h,(Builtin.append_ #[68,68] h #[zS g 0 0 c,.slice (some i) 0 (c-1)]).run Tryz.prog w.drew= .ok (zS g 0 0 c) w.drew:=fun h =>
  run_append_room_cells (P:=Tryz.prog) (w:=w.drew) 68 h 104 V Tryz.underlying68 f g 0 0 c i 0 (c-1) [] (by simp) (fun D W t=>by simp at t) (fun W t=>by cases t) (by omega) (fun D r=>by simp at r) fun D r=>by simp at r
 have p:AX w.drew g 104 m:=A;have s:=run_storeCells_at Tryz.prog g 0 104 nM 0 m w.drew p (by show 0+0+12<=_;omega) (by simp[nM,Value.oneCell']);obtain⟨b,q⟩:∃ b,b=(m.toList.take (0+0)++nM++m.toList.drop (0+0+nM.length)).toArray:=⟨_,rfl⟩
 rw[<- q] at s;have N:∀ h,(Builtin.clear_ #[68] h #[zS g 0 1 c]).run Tryz.prog w.drew= .ok (.tuple #[]) (w.drew.setRow g b):=fun h=>by
  simp[Builtin.clear_,run_underlying Tryz.underlying68,nE,s]
 have F:Hid ((w.drew.setRow g b).ownsRow base 104 12 (zS g 0 0 c) 0 []/\Am (fun k=>k=g) w (w.drew.setRow g b)):=by
  have R:b.size=c*12:=by
   rw[q,EJ,Ap,Ap,BA,Cb,Ci,B];rw[show nM.length=12 from rfl];omega
  exact⟨⟨by simp,.inr ⟨g,c,b,rfl,y,GU p b,by omega,by unfold maxLen;omega,R,by simp⟩⟩,(Aa (fun k=>k=g) w).drew.AJ (EY w.drew g b) fun _ _ j=>j⟩
 obtain⟨E,Z⟩:∃ E,∀ a,(Instr.slice 68 (zS g 0 1 c) (some zO) (some (zI 1)) (some (zI 1))).run Tryz.prog a= .ok E a :=
  ⟨sliced (some (zA g 0)) 0 1 1 12,fun a=>by
   rw[run_slice_lhm a 68 _ _ c (by rw[d];exact Tryz.underlying68) .i64 .i64 .i64 0 1 1 (by omega) (by omega) (by omega) (by omega),d];simp[sizeOf,typeInfo,f,l]⟩
 have ac:∀ a,(Instr.slice 68 (zS g 0 0 c) (some zO) (some (zI 1)) none).run Tryz.prog a= .ok (zS g 0 1 c) a:=fun a=>by
  rw[run_slice_lh a 68 _ _ c (by rw[d];exact Tryz.underlying68) .i64 .i64 0 1 (by omega) (by omega) (by omega),d];have J:c≠0:=by omega
  simp[sizeOf,typeInfo,f,l,sliced,Addr.add_lit,J]
 clear f T l U d s q B p A ht u n y z Q x C L;go_in;go_wp2;refine GZ (fun a=>True) trivial fun e=>?_
 refine hq 0 20 e ?_;refine hq 1 21 e ?_;refine hq 2 22 e ?_;refine hq 3 23 e ?_;refine hq 4 24 e ?_;refine hq 5 25 e ?_;refine Gg 6 fun G v=>?_
 rw[AQ (by rfl)];refine wp_append_run (.tmp 22) (.tmp 25) 68 rfl rfl rfl (K _) ?_;rw[Ga 26 (by rfl)];dsimp only[Act.put,AZ,Bq,Bi];refine v.out _ _ trivial fun e=>?_
 clear v G;refine hq 7 0 e ?_;refine zw ?_;go_wp2_with (simp only[N]);go_ret;obtain⟨H,I⟩:=F.out;exact⟨rfl,H,I⟩

end Go.Proofs.YtcjcndnjpedniaaGreat
