/- Proved: TopUsers returns true for every amount and every list of certificates, and leaves its arguments as they were. No condition. -/
import Derived.Test.YtcjcndnjpedniaaGreatRows
import Derived.ProofKit
import Derived.Deep.Slices
import Derived.ChangeSame
import Derived.ShutString
import Derived.OpenShut
import Derived.Test.YtcjcndnjpedniaaGreatB37
namespace Go.Proofs.YtcjcndnjpedniaaGreat
set_option linter.all false
set_option maxRecDepth 100000
set_option maxHeartbeats 8000000
open Go.RowKit
def nW (n:Nat) (l:List BB) (e:Ending):Prop:=∃ a,e= .returned (.bool a)/\(a=false->n<=18/\∀ s∈l,s.size<=100)
theorem aW (A:Option Addr) (c n:Nat) (l:List BB) (w:Bc) (k:l.length=n) (y:n<=maxLen) (m:Ay Value.string w w.heap.size 1 A l) :
  Calls Tryz.prog 5 #[.slice A n c] w fun e w'=>nW n l e/\w=w':=by
 unfold maxLen at y;have p:=Lh m;have a:=Lh k;clear m k;by_cases t:n<=18
 ·have u:decide (18<n)=false:=dF;go_in;go_upto_region 4 with(fail)
  go_loopg [9] n fun gk B wr=>∃ j:Nat,j+gk=n/\B=zI j/\Hid (∀ s∈l.take j,s.size<=100)/\w=wr
  case atStart=>exact⟨0,by omega,rfl,Lh fun s g=>by simp at g,rfl⟩
  case round =>
   obtain⟨j,G,rfl,i,rfl⟩:=hrel;by_cases f:j<n
   ·obtain⟨r,o,rfl,F,d⟩:=p.out j (by rw[a.out];exact f);obtain⟨s,h⟩:∃ s,s=l[j]'(by rw[a.out];exact f):=⟨_,rfl⟩
    rw[<- h] at d;have H:(0:Int)<=(j:Int):=by omega
    have C:(j:Int)<(n:Int):=by omega
    have E:Cl w r (o+j) (.string s):=by have:=d 0 (by omega);rw[Fy] at this;exact this
    have q:=Lh h;clear d h;by_cases z:s.size<=100
    ·have v:¬(100:Int)<(s.size:Int):=by omega
     go_wp2;go_roundg (gk-1)
     case measure=>omega
     case rel=>exact⟨j+1,by omega,by go_num,Lh fun D hq=>by
      rw[AP (by rw[a.out];exact f)] at hq;rcases Bd.1 hq with hq|hq
      ·exact i.out D hq
      ·rw[Ai.1 hq,<- q.out];exact z,rfl⟩
    ·have v:(100:Int)<(s.size:Int):=by omega
     go_wp2;go_ret;exact⟨⟨true,rfl,fun b=>by cases b⟩,rfl⟩
   ·have x:j=n:=by omega
    subst x;have C:¬(j:Int)<(j:Int):=by omega
    go_wp2;go_ret;refine⟨⟨false,rfl,fun _=>⟨t,fun s g=>i.out s ?_⟩⟩,rfl⟩;rw[Bt (by rw[a.out];exact AY _)];exact g
 ·have u:(18:Int)<(n:Int):=by omega
  go_in;go_wp2;go_ret;exact⟨⟨true,rfl,fun b=>by cases b⟩,rfl⟩
def TS (wb:Nat) (wA:Bc) (oA:Nat->Nat) (n:Nat) (nx l:Int) (R:List (Int × Int × Int × Int)) (y:DZ) (P:IZ->Prop) (G:List (Nat × TypeId × Array Value)) (W:Bc):Prop :=
 ∃ s o,SX n nx l R y s/\s.wd.wb=wb/\P s/\wA.heap.size<=s.b/\ED s.cs W o/\Ew none oA o wA W/\∀ a∈G,Loc o W a.1 a.2.1 a.2.2
def Vm (wb:Nat) (wA:Bc) (oA:Nat->Nat) (n:Nat) (nx l:Int) (R:List (Int × Int × Int × Int)) (y:DZ) (P:IZ->Prop) (G:List (Nat × TypeId × Array Value)) (c:Ca) (W:Bc):Prop :=
 ∃ s o a j,SX n nx l R y s/\s.wd.wb=wb/\P s/\wA.heap.size<=s.b/\Ew none oA o wA a/\(∀ b∈G,Loc o a b.1 b.2.1 b.2.2)/\j<=1/\lG c s a o j W
def oM (wb:Nat) (wA:Bc) (oA:Nat->Nat) (n:Nat) (nx l op arg:Int) (R:List (Int × Int × Int × Int)) (y:DZ) (P:IZ->Prop) (G:List (Nat × TypeId × Array Value)) (W:Bc):Prop :=
 ∃ s o a,SX n nx l R y s/\s.wd.wb=wb/\P s/\wA.heap.size<=s.b/\Ew none oA o wA a/\(∀ b∈G,Loc o a b.1 b.2.1 b.2.2)/\SN n nx op arg y s a o 2 W
section
variable {w w' W W' wA:Bc} {oA o:Nat->Nat} {y:DZ} {wb j n:Nat} {s:IZ} {nx l op arg:Int} {R:List (Int × Int × Int × Int)} {P P':IZ->Prop} {G:List (Nat × TypeId × Array Value)} {c:Ca}
theorem TS.AB (b:TS wb wA oA n nx l R y P G W) (a:Au W W'):TS wb wA oA n nx l R y P G W':=by
 obtain⟨s,o,c,d,e,f,h,i,g⟩:=b;exact⟨s,o,c,d,e,f,h.AB a,i.AB a,fun k j=>(g k j).AB a⟩
theorem Vm.AB (b:Vm wb wA oA n nx l R y P G c W) (i:Au W W'):Vm wb wA oA n nx l R y P G c W':=by
 obtain⟨s,o,a,j,d,e,f,g,k,h,p,q,hC,m⟩:=b;exact⟨s,o,a,j,d,e,f,g,k,h,p,q,hC,m.AB i⟩
theorem TS.stay (a:TS wb wA oA n nx l R y P G W):∃ o,Ew none oA o wA W:=by
 obtain⟨s,o,c,d,e,f,h,b,g⟩:=a;exact⟨o,b⟩
theorem TS.new (d:TS wb wA oA n nx l R y P G W) (t:TypeId) (vs:Array Value) (k:t≠168) (m:t≠226):TS wb wA oA n nx l R y P ((W.heap.size,t,vs)::G) (W.alloc (.cells vs t)):=by
 have a:Au W (W.alloc (.cells vs t)):=(Aa _ W).alloc _;obtain⟨s,o,e,f,g,h,c,j,i⟩:=d;refine⟨s,o,e,f,g,h,c.AB a,j.AB a,fun p b=>?_⟩;rcases BI.1 b with rfl|b
 ·exact Loc.new c vs k m
 ·exact(i p b).AB a
theorem TS.BR (a:TS wb wA oA n nx l R y P G W) {g:Nat} {t:TypeId} {vs:Array Value} (c:(g,t,vs)∈G):AX W g t vs:=by
 obtain⟨s,o,d,e,f,h,i,j,b⟩:=a;exact(b _ c).BR
theorem dV (b:TS wb wA oA n nx l R y P G W) (z:n<=20) (a:Addr) (k:Nat) (A:Cn c) (B:Ay Value.string W W.heap.size 1 (some a) c.Bl) (ha:(a.block<wA.heap.size/\oA a.block=0)∨∃ t vs,(a.block,t,vs)∈G) :
  Calls Tryz.prog 9 #[zP wb,.agg #[zI 13,zO,zI 1,zO,zO,zO,zO,zN,zI c.kind,zU c.Aq,.string c.Ad,.slice (some a) c.Bl.length k,zI c.BX,zI c.till,zI c.AO,zU 0,zE,zE,zN]] W (Rt (.tuple #[]) fun w'=>Vm wb wA oA n nx l R y P G c w'):=by
 obtain⟨s,o,g,rfl,p,q,u,e,d⟩:=b;have i:Pg (some s.b) o W a.block/\a.block<W.heap.size:=by
  rcases ha with⟨h,v⟩|⟨t,vs,ha⟩
  ·exact⟨⟨e.z _ h ⟨v,fun m b=>by cases b⟩,fun m w f=>by cases w;have:=f.1;omega⟩,Bj h e.t.size⟩
  ·exact⟨(d _ ha).free,(d _ ha).BR.lt⟩
 refine(pI a k u g z A B i.1 i.2).mono ?_;rintro f w' ⟨rfl,j,x,r⟩;exact⟨rfl,s,o,W,j,g,rfl,p,q,e,d,x,r⟩
theorem Xi (p:∀ s a,SX n nx l R y s->P s->SI c s 0 a->P' a) (u:n<20) (g:Cn c) (h:Vm wb wA oA n nx l R y P G c W) :
  Calls Tryz.prog 11 #[zP wb] W (Rt (.tuple #[]) fun w'=>TS wb wA oA (n+1) nx l R y P' G w'):=by
 obtain⟨s,o,z,j,b,rfl,i,e,r,k,t,m⟩:=h;refine(dN t b u g m).mono ?_;rintro A w' ⟨rfl,a,hC,w,q,f⟩;have d:=SI.mQ b g hC;exact⟨rfl,a,w,d.1,d.2.2.2.2.1,p s a b i hC,by rw[d.2.2.2.1];exact e,q,r.low f e,fun x v=>(k x v).stay f⟩
theorem dU (b:TS wb wA oA n nx l R y P G W) (m:n<=20) (c:0<=nx) (d:nx<=900) (ha:G8 op arg) :
  Calls Tryz.prog 9 #[zP wb,.agg #[zI 3,zO,zO,zO,zI op,zI arg,zO,zN,zO,zU 0,zE,zN,zO,zO,zO,zU 0,zE,zE,zN]] W (Rt (.tuple #[]) fun w'=>oM wb wA oA n nx l op arg R y P G w'):=by
 obtain⟨s,o,a,rfl,e,f,i,j,g⟩:=b;refine(Z8 i a (by omega) c d ha).mono ?_;rintro k w' ⟨rfl,h⟩;exact⟨rfl,s,o,W,a,rfl,e,f,j,g,h⟩
theorem UN (f:Int->Int->DZ->Prop) (B:∀ s,P s->∀ q∈s.Y,q.1.turn<(s.L1.length:Int)) (u:∀ s b,P s->b.L1=s.L1->P' b) (x:∀ s er v a,P s->(∀ d∈s.L1,Cn d)->WJ s.L1 arg y er v a->f er v a) (E:n<=20) (k:0<=nx) (m:nx<=900) (D:l<nx) (ha:G8 op arg) (K:G9 y) (L:y.op=op) (H:y.value+arg<=1000000) (I:y.version<=1000000) (w:R.length<=50)
  (j:oM wb wA oA n nx l op arg R y P G W) :
  Calls Tryz.prog 11 #[zP wb] W (Rt (.tuple #[]) fun w'=>∃ er v a,f er v a/\TS wb wA oA (n+2) (nx+1) nx (R++[(16435,nx,er,v)]) a P' G w'):=by
 obtain⟨s,o,O,e,rfl,c,g,A,p,r⟩:=j;refine(Xx e E k m D ha K L H I (B s c) w r).mono ?_;rintro Q w' ⟨rfl,b,⟨er,v,a,i,hC,t,C,J,_⟩,M,z,h⟩;rw[e.r] at i;exact⟨rfl,er,v,a,x s er v a c e.ok.ok1 hC,b,M,i,J,u s b c t,by rw[C];exact g,z,A.low h g,fun N F=>(p N F).stay h⟩
theorem UO (g:TS wb wA oA n nx l R y P G W) (h:0<R.length) (i:R.length<=50):∃ nb,Cl W wb 0 (zP nb)/\Calls Tryz.prog 13 #[.pointer (some (zA nb 3))] W fun e w'=>∃ b c,e= .returned (.slice b R.length c)/\w'.ownsRow W.heap.size 74 4 (.slice b R.length c) R.length (BN QD R)/\Au W w':=by
 obtain⟨s,o,a,rfl,k,m,d,q,p⟩:=g;have f:=Oz (j:=2) d rfl (by rw[a.r];exact h) (by rw[a.r];omega);rw[a.r] at f;exact⟨s.d0.nb,Kc d rfl a.ok.n0,f⟩
theorem pO (c:TS wb wA oA n nx l R y P G W):(∃ nb,Cl W wb 0 (zP nb))/\∃ nb,Cl W wb 3 (zP nb):=by
 obtain⟨s,o,b,rfl,d,e,a,g,f⟩:=c;exact⟨⟨_,Kc a rfl b.ok.n0⟩,_,Oi a rfl b.ok.n1⟩
def P0 (s:IZ):Prop:=s.Y=[]/\∀ a∈s.L1,a.Aq≠8591
def P1 (s:IZ):Prop:=∀ a∈s.L1,a.Aq≠8591
def P2 (s:IZ):Prop:=Mq 8591 16435∈s.L1/\∀ a∈s.Y,a.1.turn<(s.L1.length:Int)
def yU:DZ:=⟨0,0,1,C8 [8591]⟩
theorem R6:Ey 8591:=⟨by omega,by omega⟩
theorem SA:Ey 16435:=⟨by omega,by omega⟩
theorem Va:G9 yU:=⟨by show(0:Int)<=0;omega,by show(0:Int)<=4611686018427387904;omega,by show(0:Int)<=0;omega,by show(0:Int)<=4611686018427387904;omega,by show(0:Int)<=1;omega,by show(1:Int)<8;omega,Ip R6 (by omega)⟩
theorem LM (bt:Int) (a:bt<=127):(FM bt (some yU)).length<=32:=KZ a (by show(0:Int)<=1000000;omega) (by show(0:Int)<=1000000;omega) (by show(1:Int)<8;omega) (by show(C8 [8591]).size<=16;rw[FD];simp)
theorem SC:Cn (Mq 8591 16435):=eT R6 (by omega) SA (by omega)
theorem YL (c:Ke yU wb wA oA 4 W):TS wb wA oA 4 0 (-1) [] yU P0 [] W:=by
 obtain⟨s,o,a,d,e⟩:=c;refine⟨s,o,a.mQ,a.wb,⟨a.Y,fun b f=>?_⟩,a.ge,d,e,fun g a=>by cases a⟩;rcases a.mem b f with rfl|rfl|rfl
 ·show(8193+0:Int)≠8591;omega
 ·show(8193+1:Int)≠8591;omega
 ·show(8293:Int)≠8591;omega
theorem iZ (i:c.Aq≠8591) (s e:IZ) (_:SX n nx l R y s) (d:P0 s) (h:SI c s 0 e):P0 e:=by
 obtain⟨j,f,k,m,g,rfl⟩:=h;refine⟨d.1,fun b a=>?_⟩;have a:b∈f:=a;rcases g with⟨_,rfl⟩|⟨_,rfl⟩
 ·rcases SY a with a|rfl
  ·exact d.2 b a
  ·exact i
 ·exact d.2 b a
theorem jA (s d:IZ) (b:SX n nx l R y s) (g:P1 s) (h:SI (Mq 8591 16435) s 0 d):P2 d:=by
 obtain⟨k,e,m,o,a,rfl⟩:=h;have i:e=s.L1++[Mq 8591 16435]:=by
  rcases a with⟨_,rfl⟩|⟨a,_⟩
  ·exact Pm SC b.ok.ok1 fun f j=>g f j
  ·exact Bv (show(8591:Int)%8192<300 from a) (by omega)
 subst i;refine⟨by show _∈s.L1++[_];simp,fun c hq=>?_⟩;have:=b.tn c hq;show c.1.turn<((s.L1++[Mq 8591 16435]).length:Int);rw[Ap,Cv];omega
theorem denied (s:IZ) (er v:Int) (i:DZ) (k:P0 s) (r:∀ d∈s.L1,Cn d) (hC:WJ s.L1 arg yU er v i):(er=12∨er=13)/\i=yU:=by
 obtain⟨j,u,h,p,q⟩:=hC;have m:j≠1:=Xp p R6 SA (by omega) (fun w t=>by
  have f:∀ b:Int,0<=b->b<=2->Eu b≠C8 [8591]:=fun b l n a=>by
   have g:=Bu AU a;rw[Iw l n,at_one R6] at g;have o:=Bu List.length g;simp at o
  rcases NR.1 t with rfl|rfl|rfl
  ·exact f 0 (by omega) (by omega)
  ·exact f 1 (by omega) (by omega)
  ·exact f 2 (by omega) (by omega)) (fun d e=>k.2 d ((h d).1 e).1) fun d e=>(r d ((h d).1 e).1).su
 rcases q with⟨_,a,_,c⟩|⟨_,a,_,c⟩|⟨a,_⟩
 ·exact⟨.inl a,c⟩
 ·exact⟨.inr a,c⟩
 ·exact Bv a m
theorem granted (s:IZ) (er v:Int) (k:DZ) (f:P2 s) (_:∀ d∈s.L1,Cn d) (hC:WJ s.L1 arg yU er v k):(er=0/\v=arg)∨er=12:=by
 obtain⟨b,l,i,h,j⟩:=hC;have g:b≠0:=Vp h R6 SA (by omega) (by omega) (c:=Mq 8591 16435) ((i _).2 ⟨f.1,by unfold GY Mq;simp⟩) rfl rfl rfl;rcases j with⟨_,a,_⟩|⟨a,_⟩|⟨_,a,e,_⟩
 ·exact .inr a
 ·exact Bv a g
 ·exact .inl ⟨a,by rw[e];show(0:Int)+arg=arg;omega⟩
end

structure qK (w:Bc) (z:Ed):Prop where
 su:Ey z.c.Aq
 sp:z.c.Ad.size<=maxLen
 fl:z.c.Bl.length<=maxLen
 rd:Ay Value.string w w.heap.size 1 z.A z.c.Bl
theorem eG {b:Bc} {c j:Nat} (a:AX b c 51 #[zI 1,zO,zO,zO,zO,zO,zO,zN,zO,zU 0,zE,zN,zO,zO,zO,zU 0,zE,zE,zN,zI 1,zI 1,zO,zO,zO,zO,zO,zN,zO,zU 0,zE,zN,zO,zO,zO,zU 0,zE,zE,zN,zI 2,zO,zI 1,zO,zO,zO,zO,zN,zO,zU 0,zE,zN,zO,zO,zO,zU 0,zE,zE,zN,zI 8,zO,zO,zO,zO,zO,zO,zN,zO,zU 0,zE,zN,zO,zO,zO,zU 0,zE,zE,zN]) (d:j<4):b.rangeAt c (j*19) (awA j).toList:=by
 rcases j with _|_|_|_|j
 ·exact Gl a rfl (by simp)
 ·exact Gl a rfl (by simp)
 ·exact Gl a rfl (by simp)
 ·exact Gl a rfl (by simp)
 ·omega
theorem jY {c e:Bc} {d:Nat->Nat} {b j:Nat} (f:j<4) (a:Ke yU b e d j c):Calls Tryz.prog 9 #[zP b,.agg (awA j)] c (Rt (.tuple #[]) fun w'=>Ke yU b e d (j+1) w'):=by
 rcases j with _|_|_|_|j
 ·exact kW Va (LM 0 (by omega)) (LM 1 (by omega)) a
 ·exact kX Va (LM 0 (by omega)) (LM 1 (by omega)) a
 ·exact kY a
 ·exact kZ a
 ·omega
theorem Vd {w d b:Bc} {c j:Nat->Nat} (e:Au w d) (i:∀ k,k<w.heap.size->c k=0) (f:Ew none c j d b):Au w b :=
 (e.mono (S':=fun _=>False) fun _ _ a=>a).AJ f.t fun k g h=>h ⟨i k g,fun l a=>by cases a⟩
def kI (z:Ed):Prop:=z.c.Aq≠8591/\Cn z.c
theorem jZ (arg:Int) (A:Option Addr) (n cap:Nat) (L:List Ed) (w:Bc) (ha:Ey arg) (bc:L.length=n) (cu:n<=maxLen) (Z:Ay Gy w w.heap.size 7 A L) (aa:∀ z∈L,qK w z) :
  Calls Tryz.prog 3 #[zU arg,.slice A n cap] w (Rt (.bool true) (Au w)):=by
 unfold maxLen at cu;have dd:=Lh Xt;have bq:=Lh Z;have W:=Lh bc;have Y:=Lh aa;have T:=Lh ha;clear Z bc aa ha;go_in;go_upto_region 5 with(go_at_call 4;(with_reducible refine(dd.out _).mono ?_);rintro f gm ⟨rfl,g⟩;have U:=Lh g;clear g)
 go_loopg [19] n fun gk k wr=>∃ e:Nat,e+gk=n/\k=zI e/\Hid (∀ z∈L.take e,kI z)/\Hid (e<=8)/\Hid (Au w wr)
 case atStart=>exact⟨0,by omega,rfl,Lh fun z aa=>by simp at aa,Lh (by omega),U⟩
 case round =>
 clear U;obtain⟨e,bb,rfl,bm,I,r⟩:=hrel;by_cases ct:e<n
 ·obtain⟨i,l,rfl,gz,N⟩:=bq.out e (by rw[W.out];exact ct);obtain⟨z,M⟩:∃ z,z=L[e]'(by rw[W.out];exact ct):=⟨_,rfl⟩
  have ab:z∈L:=by rw[M];exact Br _
  rw[<- M] at N;have m:∀ k,k<7->wr.cell? (zA i (l+e*7+k))=(Gy z).cells[k]?:=fun k cs=>(r.out.cell (p:=zA i (l+e*7+k)) gz id).trans (N k cs)
  have fc:=Lh M;have az:=Lh ab;have ek:(0:Int)<=(e:Int):=by omega
  have bf:(e:Int)<(n:Int):=by omega
  have cb:Cl wr i (l+e*7) (zI z.c.kind):=m 0 (by omega);have cc:Cl wr i (l+e*7+1) (zU z.c.Aq):=m 1 (by omega);have cd:Cl wr i (l+e*7+2) (.string z.c.Ad):=m 2 (by omega);have ce:Cl wr i (l+e*7+3) (.slice z.A z.c.Bl.length z.k):=m 3 (by omega);have cf:Cl wr i (l+e*7+4) (zI z.c.BX):=m 4 (by omega);have cg:Cl wr i (l+e*7+5) (zI z.c.till):=m 5 (by omega);have ch:Cl wr i (l+e*7+6) (zI z.c.AO):=m 6 (by omega);clear N M ab m gz;by_cases gh:e<=7
  ·have fk:¬(7:Int)<(e:Int):=by omega
   have bk:=Lh fun d (cm:Au w d)=>aW z.A z.k _ z.c.Bl d rfl (Y.out z az.out).fl ((Y.out z az.out).rd.AB cm)
   by_cases ft:z.c.Ad.size<=100
   ·have fq:¬(100:Int)<(z.c.Ad.size:Int):=by omega
    have es:Hid (∀ d,Au w d->(z.c.Bl.length<=18/\∀ a∈z.c.Bl,a.size<=100)->Calls Tryz.prog 6 #[.agg #[zI z.c.kind,zU z.c.Aq,.string z.c.Ad,.slice z.A z.c.Bl.length z.k,zI z.c.BX,zI z.c.till,zI z.c.AO]] d (WM z.c d)):=Lh fun d cm b=>Wm z.c z.A z.k d ft (by omega) b.2 (Y.out z az.out).su ((Y.out z az.out).rd.AB cm)
    by_cases cz:z.c.Aq=8591
    ·have dw:=Lh cz;go_wp2_with (go_at_call 5;(with_reducible refine(bk.out _ r.out).mono ?_);rintro f eq ⟨⟨ai,rfl,gz⟩,rfl⟩;clear gz;rcases ai with _|_)
     all_goals
      go_ret;exact⟨rfl,r.out⟩
    ·have dw:=Lh cz;have gi:(z.c.Aq==8591)=false:=by simpa using cz
     go_wp2_with (first
      |(go_at_call 5;(with_reducible refine(bk.out _ r.out).mono ?_);rintro f eq ⟨⟨ai,rfl,gz⟩,rfl⟩;have dj:=Lh gz;clear gz;rcases ai with _|_)
      |(go_at_call 6;(with_reducible refine(es.out _ r.out (dj.out (by simp))).mono ?_);rintro f gs ⟨R,rfl,hx,g⟩;have ay:=Lh hx;have dp:=Lh (r.out.to g);clear hx g cb cc cd ce cf cg ch;obtain⟨ej,be⟩|⟨ej,be⟩:(R=0/\(R != 0)=false)∨(¬R=0/\(R != 0)=true):=(by by_cases b:R=0<;>simp[b])))
     all_goals first
      |(go_ret;first|exact⟨rfl,dp.out⟩|exact⟨rfl,r.out⟩)
      |skip
     go_roundg (gk-1)
     case measure=>omega
     case rel=>exact⟨e+1,by omega,by go_num,Lh fun a hq=>by
      rw[AP (by rw[W.out];exact ct)] at hq;rcases Bd.1 hq with hq|hq
      ·exact bm.out a hq
      ·rw[Ai.1 hq,<- fc.out];exact⟨dw.out,ay.out ej⟩,Lh (by omega),dp⟩
   ·have fq:(100:Int)<(z.c.Ad.size:Int):=by omega
    go_wp2_with (go_at_call 5;(with_reducible refine(bk.out _ r.out).mono ?_);rintro f eq ⟨⟨ai,rfl,gz⟩,rfl⟩;have dj:=Lh gz;clear gz;rcases ai with _|_)
    all_goals
     go_ret;exact⟨rfl,r.out⟩
  ·have fk:(7:Int)<(e:Int):=by omega
   go_wp2;go_ret;exact⟨rfl,r.out⟩
 have fr:e=n:=by omega
 subst fr;have dl:Hid (∀ z∈L,kI z):=Lh fun z aa=>bm.out z (by rw[Bt (by rw[W.out];exact AY _)];exact aa)
 have bf:¬(e:Int)<(e:Int):=by omega
 have bl:Hid (∀ (d:Bc) (s u:Nat),AX d s 25 #[zU 8591]->Calls Tryz.prog 7 #[zS s 0 1 u] d (Rt (.string (C8 [8591])) (Au d))):=Lh fun d s u aj=>Sm [8591] rfl rfl (by simp) (fun R hx=>by rw[Ai.1 hx];exact R6) d aj
 have de:=Lh fun(s fm y:Nat) (d:Bc) (cu:Er d s 0 fm 0 y 0 1 1 yU)=>UV 1 d cu Va (LM 0 (by omega))
 have av:Hid (AX (wr.alloc (.cells #[zO,zN,zO,zN,zO,zN] 37)) wr.heap.size 37 #[zO,zN,zO,zN,zO,zN]):=Lh (AX.new wr _ _);have bn:=Lh (r.out.alloc (.cells #[zO,zN,zO,zN,zO,zN] 37));have bs:Hid (w.heap.size<=wr.heap.size):=Lh r.out.size;clear bm bb r;go_upto_region 13 with(fail)
 clear bf;generalize wr.alloc (.cells #[zO,zN,zO,zN,zO,zN] 37)=gj at av bn ⊢;generalize wr.heap.size=H at av bs ⊢;go_upto_region 14 with(go_at_call 7;(with_reducible refine(bl.out _ _ _ ?_).mono ?_);(exact AX.new _ _ _);rintro f D ⟨rfl,g⟩;have au:=Lh (Xe D (C8 [8591]) 1 0);have cp:=((((T0 D).alloc (.cells #[.string (C8 [8591])] 27)).alloc (.cells #[zI 1,zS D.heap.size 0 1 1] 40)).alloc (.cells #[zO,.slice (some (zA (D.heap.size+1) 0)) 1 1,zO] 43));have X:=Lh (((av.out.alloc (.cells #[zU 8591] 25)).Ab g id).Ab cp id);have U:=Lh (((bn.out.alloc (.cells #[zU 8591] 25)).to g).to cp);clear g cp;have fz:=X.out.cell 3;have ga:=X.out.frozen 3)
 clear fz ga;generalize ((D.alloc (.cells #[.string (C8 [8591])] 27)).alloc (.cells #[zI 1,zS D.heap.size 0 1 1] 40)).alloc (.cells #[zO,.slice (some (zA (D.heap.size+1) 0)) 1 1,zO] 43)=P at au X U ⊢;generalize D.heap.size=y at au ⊢;have cq:Am (fun a=>a=H) P (P.setCell (zA H 3) (.slice (some (zA (y+2) 0)) 1 1)):=(Aa (fun a=>a=H) P).setCell (p:=zA H 3) (fun _=>rfl) _;have br:Hid (AX (P.setCell (zA H 3) (.slice (some (zA (y+2) 0)) 1 1)) H 37 #[zO,zN,zO,.slice (some (zA (y+2) 0)) 1 1,zO,zN]):=Lh (X.out.Dw 3 (.slice (some (zA (y+2) 0)) 1 1));have ak:=au.out;have bd:∀ a t bh,AX P a t bh->t≠37->¬a=H:=fun a t bh aj ht f=>AX.GJ aj X.out ht f
 have bo:Hid (Er (P.setCell (zA H 3) (.slice (some (zA (y+2) 0)) 1 1)) (y+2) 0 (y+1) 0 y 0 1 1 yU):=Lh (ak.far cq (by obtain⟨_,b⟩:=ak.b1;exact bd _ _ _ b (by decide)) (by obtain⟨_,b⟩:=ak.b2;exact bd _ _ _ b (by decide)) (by obtain⟨_,b⟩:=ak.b3;exact bd _ _ _ b (by decide)));have aq:=Lh (U.out.AJ cq fun a hq f=>by have:=bs.out;omega);clear cq ak bd au X U av bn bs;generalize P.setCell (zA H 3) (.slice (some (zA (y+2) 0)) 1 1)=gl at br bo aq ⊢;go_upto_region 15 with(first
  |(refine AA rfl (.tmp 7) rfl rfl br.out Tryz.underlying37 rfl NK ?_)
  |(go_at_call 8;(with_reducible refine(de.out _ _ _ _ bo.out).mono ?_);rintro f Q ⟨j,fv,fh,fi,fj,q,rfl,ed,G⟩;have bp:Hid (∀ u,u<w.heap.size->q u=0):=Lh fun u g=>G.z u (Bj g aq.out.size) ⟨rfl,fun i b=>by cases b⟩;have bt:=Lh ed;have dq:=Lh (aq.out.to (G.t.mono fun u g bc=>bc ⟨rfl,fun i b=>by cases b⟩));clear ed G))
 clear br bo aq;go_upto_region 17 with(fail)
 have an:Hid (AX (Q.alloc (.cells #[zI 1,zO,zO,zO,zO,zO,zO,zN,zO,zU 0,zE,zN,zO,zO,zO,zU 0,zE,zE,zN,zI 1,zI 1,zO,zO,zO,zO,zO,zN,zO,zU 0,zE,zN,zO,zO,zO,zU 0,zE,zE,zN,zI 2,zO,zI 1,zO,zO,zO,zO,zN,zO,zU 0,zE,zN,zO,zO,zO,zU 0,zE,zE,zN,zI 8,zO,zO,zO,zO,zO,zO,zN,zO,zU 0,zE,zN,zO,zO,zO,zU 0,zE,zE,zN] 51)) Q.heap.size 51 #[zI 1,zO,zO,zO,zO,zO,zO,zN,zO,zU 0,zE,zN,zO,zO,zO,zU 0,zE,zE,zN,zI 1,zI 1,zO,zO,zO,zO,zO,zN,zO,zU 0,zE,zN,zO,zO,zO,zU 0,zE,zE,zN,zI 2,zO,zI 1,zO,zO,zO,zO,zN,zO,zU 0,zE,zN,zO,zO,zO,zU 0,zE,zE,zN,zI 8,zO,zO,zO,zO,zO,zO,zN,zO,zU 0,zE,zN,zO,zO,zO,zU 0,zE,zE,zN]):=Lh (AX.new Q _ _);have cn:=(T0 Q).alloc (.cells #[zI 1,zO,zO,zO,zO,zO,zO,zN,zO,zU 0,zE,zN,zO,zO,zO,zU 0,zE,zE,zN,zI 1,zI 1,zO,zO,zO,zO,zO,zN,zO,zU 0,zE,zN,zO,zO,zO,zU 0,zE,zE,zN,zI 2,zO,zI 1,zO,zO,zO,zO,zN,zO,zU 0,zE,zN,zO,zO,zO,zU 0,zE,zE,zN,zI 8,zO,zO,zO,zO,zO,zO,zN,zO,zU 0,zE,zN,zO,zO,zO,zU 0,zE,zE,zN] 51);have bu:=Lh (bt.out.AB cn);have ar:=Lh (dq.out.to cn);have ca:Hid (q Q.heap.size=0):=Lh (bt.out.z _ (AY _));clear cn;go_upto_region 18 with(fail)
 generalize Q.alloc (.cells #[zI 1,zO,zO,zO,zO,zO,zO,zN,zO,zU 0,zE,zN,zO,zO,zO,zU 0,zE,zE,zN,zI 1,zI 1,zO,zO,zO,zO,zO,zN,zO,zU 0,zE,zN,zO,zO,zO,zU 0,zE,zE,zN,zI 2,zO,zI 1,zO,zO,zO,zO,zN,zO,zU 0,zE,zN,zO,zO,zO,zU 0,zE,zE,zN,zI 8,zO,zO,zO,zO,zO,zO,zN,zO,zU 0,zE,zN,zO,zO,zO,zU 0,zE,zE,zN] 51)=x at an bu ar ⊢;generalize Q.heap.size=ci at an ca ⊢;generalize Value.agg #[zI 1,zO,zO,zO,zO,zO,zO,zN,zO,zU 0,zE,zN,zO,zO,zO,zU 0,zE,zE,zN]=gu;generalize Value.agg #[zI 1,zI 1,zO,zO,zO,zO,zO,zN,zO,zU 0,zE,zN,zO,zO,zO,zU 0,zE,zE,zN]=gv;generalize Value.agg #[zI 2,zO,zI 1,zO,zO,zO,zO,zN,zO,zU 0,zE,zN,zO,zO,zO,zU 0,zE,zE,zN]=gw;generalize Value.agg #[zI 8,zO,zO,zO,zO,zO,zO,zN,zO,zU 0,zE,zN,zO,zO,zO,zU 0,zE,zE,zN]=gx;have dr:Hid (Loc q x ci 51 #[zI 1,zO,zO,zO,zO,zO,zO,zN,zO,zU 0,zE,zN,zO,zO,zO,zU 0,zE,zE,zN,zI 1,zI 1,zO,zO,zO,zO,zO,zN,zO,zU 0,zE,zN,zO,zO,zO,zU 0,zE,zE,zN,zI 2,zO,zI 1,zO,zO,zO,zO,zN,zO,zU 0,zE,zN,zO,zO,zO,zU 0,zE,zE,zN,zI 8,zO,zO,zO,zO,zO,zO,zN,zO,zU 0,zE,zN,zO,zO,zO,zU 0,zE,zE,zN]):=Lh ⟨an.out,ca.out,by decide,by decide⟩;have dn:Hid (Ke yU j x q 0 x):=Lh ⟨fv,fh,fi,fj,q,bu.out,Ew.refl⟩;clear an ca bu bt dq;clear dd de;go_loopg [81] 4 fun gk k wr=>∃ a:Nat,a+gk=4/\k=zI a/\Hid (Ke yU j x q a wr)
 case atStart=>exact⟨0,by omega,rfl,dn⟩
 case round =>
 clear dn;obtain⟨a,hq,rfl,ap⟩:=hrel;by_cases cw:a<4
 ·have ek:(0:Int)<=(a:Int):=by omega
  have bf:(a:Int)<4:=by omega
  have ei:wr.rangeAt ci (a*19) (awA a).toList:=by
   obtain⟨en,G⟩:=ap.out.stay;exact eG (dr.out.stay G).BR cw
  have dt:=Lh ei;clear ei;have fb:Hid (AX (wr.alloc (.cells #[zO,zO,zO,zO,zO,zO,zO,zN,zO,zU 0,zE,zN,zO,zO,zO,zU 0,zE,zE,zN] 51)) wr.heap.size 51 #[zO,zO,zO,zO,zO,zO,zO,zN,zO,zU 0,zE,zN,zO,zO,zO,zU 0,zE,zE,zN]):=Lh (AX.new wr _ _);have et:=Lh ((T0 wr).alloc (.cells #[zO,zO,zO,zO,zO,zO,zO,zN,zO,zU 0,zE,zN,zO,zO,zO,zU 0,zE,zE,zN] 51));have aw:=Lh (WO a);go_upto_region 20 with(first
   |(refine wpList_load_mid rfl 51 (.tmp 83) rfl ci _ rfl (awA a).toList _ (by first|exact dt.out|simpa using dt.out) Tryz.underlying51 rfl (by rw[show(awA a).toList.length=19 from by rw[Ci];exact aw.out];exact Jr) ?_)
   |(refine Bo rfl (.tmp 11) (.tmp 84) rfl rfl (cs':=awA a) rfl fb.out (by rw[aw.out];exact Jr) (by rw[aw.out];rfl) (Zz a) ?_;intro gt ec ee fs;clear fs;have ay:=Lh ec;have ew:=Lh (ap.out.AB (et.out.AJ ee fun u g f=>by omega));clear ec ee))
  obtain⟨gy,be⟩:∃ s,s=wr.heap.size:=⟨_,rfl⟩
  rw[<- be] at ay ⊢;clear be;go_upto_region 21 with(first
   |(refine AA rfl (.tmp 11) rfl rfl ay.out Tryz.underlying51 rfl (by rw[aw.out];exact Jr) ?_)
   |(go_at_call 9;(with_reducible refine(jY cw ew.out).mono ?_);rintro f gd ⟨rfl,bb⟩;have ex:=Lh bb;clear bb))
  go_wp2;go_roundg (gk-1)
  case measure=>omega
  case rel=>exact⟨a+1,by omega,by go_num,ex⟩
 obtain rfl:a=4:=by omega
 have bw:Hid (TS j x q 4 0 (-1) [] yU P0 [] wr):=Lh (YL ap.out);clear ap dr hq cw;have ds:=Lh (pO bw.out);obtain⟨⟨fw,K⟩,fx,ef⟩:=ds.out;have df:Hid (Calls Tryz.prog 10 #[zP j,zO] wr (Rt (.bool true) fun E=>wr=E)):=Lh (N9 j 0 fw wr (by omega) K);have dg:Hid (Calls Tryz.prog 10 #[zP j,zI 1] wr (Rt (.bool true) fun E=>wr=E)):=Lh (N9 j 1 fx wr (by omega) ef);clear ds K ef;go_upto_region 25 with(go_at_call 10;first|((with_reducible refine df.out.mono ?_);rintro f dc ⟨rfl,O⟩;subst O)|((with_reducible refine dg.out.mono ?_);rintro f dc ⟨rfl,O⟩;subst O))
 clear df dg;go_loopg [99] e fun gk k wr=>∃ a:Nat,a+gk=e/\k=zI a/\Hid (TS j x q (4+a) 0 (-1) [] yU P0 [] wr)
 case atStart=>exact⟨0,by omega,rfl,bw⟩
 case round =>
 clear bw;obtain⟨a,hq,rfl,ax⟩:=hrel;by_cases cx:a<e
 ·obtain⟨i,l,rfl,gz,N⟩:=bq.out a (by rw[W.out];exact cx);obtain⟨z,M⟩:∃ z,z=L[a]'(by rw[W.out];exact cx):=⟨_,rfl⟩
  have ab:z∈L:=by rw[M];exact Br _
  rw[<- M] at N;have co:Au w wr:=by
   obtain⟨en,G⟩:=ax.out.stay;exact Vd ar.out bp.out G
  have ba:=dl.out z ab;have cy:=(Y.out z ab).rd;obtain⟨fd,fe,cj,cr,-⟩:=cy 0 (by have:=(Cm ba.2.set).1;omega);have dm:=Lh ba;have ez:Hid (Calls Tryz.prog 9 #[zP j,.agg #[zI 13,zO,zI 1,zO,zO,zO,zO,zN,zI z.c.kind,zU z.c.Aq,.string z.c.Ad,.slice z.A z.c.Bl.length z.k,zI z.c.BX,zI z.c.till,zI z.c.AO,zU 0,zE,zE,zN]] wr (Rt (.tuple #[]) fun E=>Vm j x q (4+a) 0 (-1) [] yU P0 [] z.c E)):=Lh (by
   have b:=dV (c:=z.c) ax.out (by have:=I.out;omega) (zA fd fe) z.k ba.2 (by rw[<- cj];exact cy.AB co) (.inl ⟨Bj cr ar.out.size,bp.out _ cr⟩);rw[cj];exact b)
  have ek:(0:Int)<=(a:Int):=by omega
  have bf:(a:Int)<(e:Int):=by omega
  have m:∀ k,k<7->wr.cell? (zA i (l+a*7+k))=(Gy z).cells[k]?:=fun k cs=>(co.cell (p:=zA i (l+a*7+k)) gz id).trans (N k cs)
  have cb:Cl wr i (l+a*7) (zI z.c.kind):=m 0 (by omega);have cc:Cl wr i (l+a*7+1) (zU z.c.Aq):=m 1 (by omega);have cd:Cl wr i (l+a*7+2) (.string z.c.Ad):=m 2 (by omega);have ce:Cl wr i (l+a*7+3) (.slice z.A z.c.Bl.length z.k):=m 3 (by omega);have cf:Cl wr i (l+a*7+4) (zI z.c.BX):=m 4 (by omega);have cg:Cl wr i (l+a*7+5) (zI z.c.till):=m 5 (by omega);have ch:Cl wr i (l+a*7+6) (zI z.c.AO):=m 6 (by omega);clear N M ab m gz ba cy cj cr co;go_upto_region 28 with(go_at_call 9;(with_reducible refine ez.out.mono ?_);rintro f gd ⟨rfl,h⟩;have ey:=Lh h;clear h cb cc cd ce cf cg ch)
  have B:4+a<20:=by have:=I.out;omega
  have F:=Lh (Xi (P':=P0) (fun v bg Z b cl=>iZ dm.out.1 v bg Z b cl) B dm.out.2 ey.out);clear B;go_upto_region 29 with(go_at_call 11;(with_reducible refine F.out.mono ?_);rintro f ge ⟨rfl,h⟩;have ah:=Lh h;clear h)
  go_wp2;go_roundg (gk-1)
  case measure=>omega
  case rel=>exact⟨a+1,by omega,by go_num,ah⟩
 obtain rfl:a=e:=by omega
 clear hq cx dl bq Y;have fy:¬(a:Int)<(a:Int):=by omega
 have gg:IntKind.i64.wrap arg=arg:=Dp _ (by have:=T.out.1;omega) (by have:=T.out.2;omega);have ag:Hid (TS j x q (4+a) 0 (-1) [] yU P0 [(wr.heap.size,48,#[zO,zI 1,zI arg,zO,zN])] (wr.alloc (.cells #[zO,zI 1,zI arg,zO,zN] 48))):=Lh (ax.out.new 48 #[zO,zI 1,zI arg,zO,zN] (by decide) (by decide));have ao:Hid (G8 1 arg):=Lh ⟨.inr rfl,T.out.1,T.out.2,fun b=>by omega⟩;go_upto_region 31 with(fail)
 clear ax fy;generalize wr.alloc (.cells #[zO,zI 1,zI arg,zO,zN] 48)=ge at ag ⊢;generalize wr.heap.size=ac at ag ⊢;have af:=Lh (ag.out.BR (g:=ac) (t:=48) (vs:=#[zO,zI 1,zI arg,zO,zN]) (by simp));go_upto_region 32 with(first
  |(refine AA rfl (.tmp 13) rfl rfl af.out Tryz.underlying48 rfl IE ?_)
  |(go_at_call 9;(with_reducible refine(dU ag.out (by have:=I.out;omega) (by omega) (by omega) ao.out).mono ?_);rintro f gn ⟨rfl,h⟩;have du:=Lh h;clear h))
 clear af ag;have B:4+a<=20:=by have:=I.out;omega
 have F:=Lh (UN (P':=P1) (fun o C S=>(o=12∨o=13)/\S=yU) (fun v b a hq=>by rw[b.1] at hq;cases hq) (fun v bg b f=>by unfold P1;rw[f];exact b.2) (fun v o C S b cv hC=>denied v o C S b cv hC) B (by omega) (by omega) (by omega) ao.out Va rfl (by have:=T.out.2;show(0:Int)+arg<=1000000;omega) (by show(0:Int)<=1000000;omega) (by simp) du.out);clear B;go_upto_region 33 with(go_at_call 11;(with_reducible refine F.out.mono ?_);rintro f bi ⟨rfl,o,C,S,⟨eg,rfl⟩,h⟩;have eu:=Lh eg;have ah:Hid (TS j x q (4+a+2) 1 0 [(16435,0,o,C)] yU P1 [(ac,48,#[zO,zI 1,zI arg,zO,zN])] bi):=Lh h;clear eg h)
 clear du F;obtain⟨el,K,al⟩:=UO ah.out (by simp) (by simp);have ad:Hid (Calls Tryz.prog 12 #[zP j,zO] bi (Rt (zP el) fun E=>bi=E)):=Lh (Jf j 0 el bi (by omega) K);have ae:=Lh al;clear K al;go_upto_region 34 with(first
  |(go_at_call 12;(with_reducible refine ad.out.mono ?_);rintro f dc ⟨rfl,O⟩;subst O)
  |(go_at_call 13;(with_reducible refine ae.out.mono ?_);rintro f ep ⟨er,ff,rfl,J,g⟩;obtain⟨fo,fg,ck,-⟩:=J9 J (by simp);cases ck;have dx:=Lh (ah.out.AB g);have da:Cl ep fo 2 (zI o):=J.cellAt 2 (by simp);clear J g))
 clear ad ae ah;go_cut [142] fun v d=>v= .bool false/\d=ep
 case first =>
  rcases eu.out with b|b
  ·rw[b] at da;go_wp2;go_meet;exact⟨rfl,rfl⟩
  ·rw[b] at da;go_wp2;go_meet;exact⟨rfl,rfl⟩
 case rest =>
 obtain⟨rfl,fu⟩:=hcut;subst fu;clear da;have dh:Hid (∀ (d:Bc) (s u:Nat),AX d s 25 #[zU 16435]->Calls Tryz.prog 7 #[zS s 0 1 u] d (Rt (.string (C8 [16435])) (Au d))):=Lh fun d s u aj=>Sm [16435] rfl rfl (by simp) (fun R hx=>by rw[Ai.1 hx];exact SA) d aj
 have di:Hid (∀ d,TS j x q (4+a+2) 1 0 [(16435,0,o,C)] yU P1 [(ac,48,#[zO,zI 1,zI arg,zO,zN])] d->Calls Tryz.prog 9 #[zP j,.agg #[zI 13,zO,zI 1,zO,zO,zO,zO,zN,zI 6,zU 8591,.string (C8 [16435]),zS d.heap.size 0 1 1,zO,zI 5,zO,zU 0,zE,zE,zN]] (d.alloc (.cells #[.string (C8 [8591])] 27)) (Rt (.tuple #[]) fun E=>Vm j x q (4+a+2) 1 0 [(16435,0,o,C)] yU P1 [(d.heap.size,27,#[.string (C8 [8591])]),(ac,48,#[zO,zI 1,zI arg,zO,zN])] (Mq 8591 16435) E)):=Lh fun d b=>dV (c:=Mq 8591 16435) (b.new 27 #[.string (C8 [8591])] (by decide) (by decide)) (by have:=I.out;omega) (zA d.heap.size 0) 1 SC (Gf (V:=Value.string) (fun _=>rfl) (AX.new d _ _) [C8 [8591]] rfl) (.inr ⟨27,#[.string (C8 [8591])],List.mem_cons_self⟩)
 go_upto_region 37 with(first
  |(go_at_call 7;first
   |((with_reducible refine(dh.out _ _ _ ?_).mono ?_);(exact AX.new _ _ _);rintro f go ⟨rfl,g⟩;have dy:=Lh ((dx.out.AB ((T0 _).alloc _)).AB g);clear g)
   |((with_reducible refine(bl.out _ _ _ ?_).mono ?_);(exact AX.new _ _ _);rintro f gc ⟨rfl,g⟩;have dz:=Lh ((dy.out.AB ((T0 _).alloc _)).AB g);clear g))
  |(go_at_call 9;(with_reducible refine(di.out _ dz.out).mono ?_);rintro f gp ⟨rfl,h⟩;have bv:=Lh h;clear h))
 clear dx dy dz dh bl di;generalize gc.heap.size=fn at bv ⊢;have B:4+a+2<20:=by have:=I.out;omega
 have F:=Lh (Xi (P':=P2) (fun v bg Z b cl=>jA v bg Z b cl) B SC bv.out);clear B;go_upto_region 38 with(go_at_call 11;(with_reducible refine F.out.mono ?_);rintro f gq ⟨rfl,h⟩;have bx:=Lh h;clear h)
 clear F bv;have af:=Lh (bx.out.BR (g:=ac) (t:=48) (vs:=#[zO,zI 1,zI arg,zO,zN]) (by simp));go_upto_region 39 with(first
  |(refine AA rfl (.tmp 13) rfl rfl af.out Tryz.underlying48 rfl IE ?_)
  |(go_at_call 9;(with_reducible refine(dU bx.out (by have:=I.out;omega) (by omega) (by omega) ao.out).mono ?_);rintro f gr ⟨rfl,h⟩;have dv:=Lh h;clear h))
 clear af bx;have B:4+a+2+1<=20:=by have:=I.out;omega
 have F:=Lh (UN (P':=fun _=>True) (fun o C S=>(o=0/\C=arg)∨o=12) (fun v b=>b.2) (fun _ _ _ _=>trivial) (fun v o C S b cv hC=>granted v o C S b cv hC) B (by omega) (by omega) (by omega) ao.out Va rfl (by have:=T.out.2;show(0:Int)+arg<=1000000;omega) (by show(0:Int)<=1000000;omega) (by simp) dv.out);clear B;go_upto_region 40 with(go_at_call 11;(with_reducible refine F.out.mono ?_);rintro f bj ⟨rfl,ea,D,gf,eh,h⟩;have ev:=Lh eh;have bz:Hid (TS j x q (4+a+2+1+2) 2 1 [(16435,0,o,C),(16435,1,ea,D)] gf (fun _=>True) [(fn,27,#[.string (C8 [8591])]),(ac,48,#[zO,zI 1,zI arg,zO,zN])] bj):=Lh h;clear eh h)
 clear dv F;obtain⟨em,K,al⟩:=UO bz.out (by simp) (by simp);have ad:Hid (Calls Tryz.prog 12 #[zP j,zO] bj (Rt (zP em) fun E=>bj=E)):=Lh (Jf j 0 em bj (by omega) K);have ae:=Lh al;clear K al;go_upto_region 41 with(first
  |(go_at_call 12;(with_reducible refine ad.out.mono ?_);rintro f dc ⟨rfl,O⟩;subst O)
  |(go_at_call 13;(with_reducible refine ae.out.mono ?_);rintro f db ⟨er,ff,rfl,J,g⟩;obtain⟨eb,fg,ck,-⟩:=J9 J (by simp);cases ck;have fa:=Lh (bz.out.AB g);have eo:Cl db eb 6 (zI ea):=J.cellAt 6 (by simp);have gb:Cl db eb 7 (zI D):=J.cellAt 7 (by simp);clear J g))
 clear ad ae bz;have dk:Hid (Au w db):=Lh (by
  obtain⟨en,G⟩:=fa.out.stay;exact Vd ar.out bp.out G)
 rcases ev.out with⟨b,fp⟩|b
 ·rw[b] at eo;rw[fp] at gb;go_wp2;go_ret;exact⟨rfl,dk.out⟩
 ·rw[b] at eo;go_wp2;go_ret;exact⟨rfl,dk.out⟩

section
open Go.ChangeShapes Go.WideShapes Go.ChangeAt Go.RowKit Go.Deep
theorem qU:ownKnob Tryz.prog.godebug=none:=by kernel_rfl
theorem laid:laidOutB Tryz.prog=true:=by kernel_rfl
theorem Z4 {n:Int} (a:(Lit.int .u16 n).wf=true):0<=n/\n<=65535:=by
 simp[Lit.wf,IntKind.min,IntKind.max,IntKind.signed,IntKind.bits] at a;exact⟨by omega,by omega⟩
instance :Inhabited BB:=⟨⟨#[]⟩⟩
section
variable {H:Type} {enc:TypeId × Value->H} {w:Bc} {base:Nat} {spare:Nat->Bool} {held:Bool}
theorem KN:Tryz.prog.cellsOf 25=1:=by kernel_rfl
theorem Pt:Tryz.prog.cellsOf 27=1:=by kernel_rfl
theorem Ye {b:Nat} {cs:List Value} {x:DataW H × List MemPlace} (c:DataW.trod enc Tryz.prog w base spare held b 25 cs=some x):∃ a:Int,(0<=a/\a<=65535)/\cs=(Value.int .u16 a).cells.toList:=by
 obtain⟨e,rfl,_,d⟩:=DataW.trod_int Tryz.underlying25 c;exact⟨e,Z4 d,rfl⟩
theorem Rp {b:Nat} {cs:List Value} {x:DataW H × List MemPlace} (c:DataW.trod enc Tryz.prog w base spare held b 27 cs=some x):∃ a:BB,a.size<=maxLen/\cs=(Value.string a).cells.toList:=by
 obtain⟨e,rfl,_,d⟩:=DataW.trod_string Tryz.underlying27 c;exact⟨e,d,rfl⟩
theorem open_list {c : Type} [Inhabited c] {V:c->Value} {ok:c->Prop} {t e size:Nat} (ht:Tryz.prog.underlying t=some (.slice e)) (J:Tryz.prog.cellsOf e=size) (I:0<size)
  (G:∀ (r:Nat) (cs:List Value) (x:DataW H × List MemPlace),DataW.trod enc Tryz.prog w base spare held r e cs=some x->∃ f:c,ok f/\cs=(V f).cells.toList)
  {A:Option Addr} {len cap:Nat} {d:DataW H} {p:List MemPlace} (v:DataW.Trod enc Tryz.prog w base spare held t (.slice A len cap) d p) :
  ∃ l:List c,l.length=len/\(∀ x∈l,ok x)/\Ay V w w.heap.size size A l/\len<=maxLen:=by
 obtain⟨r,C⟩:=v;rcases open_slice ht C with⟨h,_⟩|⟨f,ab,T,M,n,R,S,h,W,Y,aa,F,hx,af⟩
 ·simp[Value.cells] at h;obtain⟨rfl,rfl,rfl⟩:=h;exact⟨[],rfl,by simp,fun s j=>by simp at j,EN _⟩
 ·simp[Value.cells] at h;obtain⟨rfl,rfl,rfl⟩:=h;have Z:len<=M:=by rw[F];split<;>omega
  have B:∀ b,b<len->∃ i:c,ok i/\(V i).cells.size=size/\∀ a,a<size->w.cell? ((f.add (b*size)).add a)=(V i).cells[a]?:=fun b X=>by
   obtain⟨U,g,y⟩:=af b (by omega);obtain⟨i,L,rfl⟩:=G _ _ _ y;rw[J] at g;obtain⟨_,D,z⟩:=World.cells?_some g;exact⟨i,L,by simpa using D,fun a o=>(z a o).trans (by simp)⟩
  obtain⟨u,m⟩:=choose_lt B;refine⟨(List.range len).map u,by simp,?_,?_,by omega⟩
  ·intro x hx;obtain⟨b,af,rfl⟩:=Bp.1 hx;exact(m b (by simpa using af)).1
  ·intro s j;simp at j;obtain⟨_,ae,Q⟩:=m 0 (by omega);have k:=Q 0 I;rw[EZ (by omega)] at k;obtain⟨q,N,O⟩:=f;have K:O=none:=by
    have:=World.cell?_spot k;simpa [Addr.add] using this
   subst K;have E:q<w.heap.size:=by
    have:=World.block_lt_of_cell? w _ k;simpa [Addr.add] using this
   obtain⟨_,ad,P⟩:=m s j;refine⟨q,N,rfl,E,fun a o=>?_⟩;have g:=P a o;simp only[Addr.add_lit] at g;rw[g];simp
end
end
section
open Go.ChangeShapes Go.WideShapes Go.ChangeAt Go.RowKit Go.Deep Go.ChangeMaps
theorem qQ {i : Type} {l:List i} (h:l.length=7):∃ a b c d e f g,l=[a,b,c,d,e,f,g]:=by
 match l,h with
 |[a,b,c,d,e,f,g],_=>exact⟨a,b,c,d,e,f,g,rfl⟩
theorem Pq:Tryz.prog.cellsOf 31=7:=by kernel_rfl
theorem Xz:Tryz.prog.cellsOf 29=1:=by kernel_rfl
theorem NH:Tryz.prog.cellsOf 2=1:=by kernel_rfl
section
variable {H:Type} {enc:TypeId × Value->H} {w:Bc} {base:Nat} {spare:Nat->Bool} {held:Bool}
theorem bU {k:Nat} {c:Value} {x:DataW H × List MemPlace} (d:DataW.trod enc Tryz.prog w base spare held k 29 [c]=some x) :
  ∃ (A:Option Addr) (cap:Nat) (l:List BB),c= .slice A l.length cap/\(∀ s∈l,s.size<=maxLen)/\Ay Value.string w w.heap.size 1 A l/\l.length<=maxLen:=by
 have n:∀ (A:Option Addr) (b cap:Nat),c= .slice A b cap->∃ l:List BB,l.length=b/\(∀ s∈l,s.size<=maxLen)/\Ay Value.string w w.heap.size 1 A l/\b<=maxLen:=fun A b cap p=>by
  subst p;obtain⟨j,o⟩:=x;exact open_list (V:=Value.string) (ok:=fun s=>s.size<=maxLen) Tryz.underlying29 Pt (by omega) (fun _ _ _ d=>Rp d) (t:=29) (A:=A) (len:=b) (cap:=cap) (d:=j) (p:=o) ⟨k,d⟩
 rcases open_slice Tryz.underlying29 d with⟨a,_⟩|⟨h,q,i,v,y,r,u,a,_⟩
 ·simp at a;obtain⟨l,m,e,f,g⟩:=n none 0 0 a;exact⟨none,0,l,by rw[a,m],e,f,by rw[m];exact g⟩
 ·simp at a;obtain⟨l,rfl,e,f,g⟩:=n (some h) q i a;exact⟨some h,i,l,a,e,f,g⟩
instance :Inhabited Ed:=⟨⟨⟨0,0,⟨#[]⟩,[],0,0,0⟩,none,0⟩⟩
theorem Yf {N:Nat} {cs:List Value} {x:DataW H × List MemPlace} (O:DataW.trod enc Tryz.prog w base spare held N 31 cs=some x):∃ z:Ed,qK w z/\cs=(Gy z).cells.toList:=by
 obtain⟨a,d,_,_,m,P,c⟩:=DataW.trod_struct Tryz.underlying31 O;rw[Pq] at m;obtain⟨v,aq,A,B,C,D,E,rfl⟩:=qQ m;have f:DataW.trod enc Tryz.prog w base spare held d 3 [v]=a[0]?:=by simpa [Tt] using c 0 _ rfl
 have g:DataW.trod enc Tryz.prog w base spare held d 25 [aq]=a[1]?:=by simpa [KN] using c 1 _ rfl
 have h:DataW.trod enc Tryz.prog w base spare held d 27 [A]=a[2]?:=by simpa [Pt] using c 2 _ rfl
 have i:DataW.trod enc Tryz.prog w base spare held d 29 [B]=a[3]?:=by simpa [Xz] using c 3 _ rfl
 have j:DataW.trod enc Tryz.prog w base spare held d 2 [C]=a[4]?:=by simpa [NH] using c 4 _ rfl
 have k:DataW.trod enc Tryz.prog w base spare held d 2 [D]=a[5]?:=by simpa [NH] using c 5 _ rfl
 have l:DataW.trod enc Tryz.prog w base spare held d 2 [E]=a[6]?:=by simpa [NH] using c 6 _ rfl
 have b:∀ e,e<7->∃ y,a[e]?= some y:=fun e ad=>⟨a[e]'(by simp at P;omega),Ah _⟩
 obtain⟨aj,F⟩:=b 0 (by omega);obtain⟨ak,G⟩:=b 1 (by omega);obtain⟨al,I⟩:=b 2 (by omega);obtain⟨am,J⟩:=b 3 (by omega);obtain⟨an,K⟩:=b 4 (by omega);obtain⟨ao,L⟩:=b 5 (by omega);obtain⟨ap,M⟩:=b 6 (by omega);rw[F] at f;rw[G] at g;rw[I] at h;rw[J] at i;rw[K] at j;rw[L] at k;rw[M] at l;obtain⟨S,n,_,af⟩:=DataW.trod_int Tryz.underlying3 f;obtain⟨T,aa,o⟩:=Ye g;obtain⟨Z,ab,p⟩:=Rp h;obtain⟨t,u,R,Q,ae,X,Y⟩:=bU i;obtain⟨U,q,_,ag⟩:=DataW.trod_int Tryz.underlying2 j;obtain⟨V,r,_,ah⟩:=DataW.trod_int Tryz.underlying2 k;obtain⟨W,s,_,ai⟩:=DataW.trod_int Tryz.underlying2 l;simp[Value.cells] at n o p q r s;subst n o p Q q r s;exact⟨⟨⟨S,T,Z,R,U,V,W⟩,t,u⟩,⟨aa,ab,Y,X⟩,rfl⟩
end
theorem OL (o:Os) (S:o.Started) (H:Type) (enc:TypeId × Value->H) :
  ReturnsInHanded {} Tryz.checked o 3 .any (Rows.topUsersSpec.pre6 enc Tryz.prog Tryz.f3 Rows.topUsersRow.domain false) (Rows.topUsersSpec.post enc Tryz.prog Tryz.f3 false true false false):=by
 refine returnsInHanded_of_change (C:=Tryz.checked) qU S (by kernel_rfl) Tryz.func3
  (ChangeSpec.witness6 (enc:=enc) (C:=Tryz.checked) false ⟨#[],#[zU 0,zN],[]⟩ 8 (by kernel_rfl) (by kernel_rfl) (by kernel_rfl) (by kernel_rfl)) ?_
 intro a base c w ac W m l ae _;have h:∀ (n:Nat) p an,Tryz.f3.params[n]?= some p->c[n]?= some an->Value.okWide Tryz.prog a .any base p an:=m;have z:=l;obtain⟨N,q,hA0,y,rfl,af,ag⟩:=l;have k:DataW.TrodAll enc Tryz.prog a 0 (fun _=>true) true Tryz.f3.params.toList c.toList w N:=hA0;rw[Tryz.params3] at k h;obtain⟨r,ak,X,Z,O,ai,ad,rfl,rfl,am,Q⟩:=trodAll_cons k;obtain⟨s,al,Y,aa,P,aj,rfl,rfl,rfl,f,R⟩:=trodAll_cons Q;obtain⟨rfl,rfl,rfl⟩:=trodAll_nil R;obtain rfl:c=#[r,s]:=by cases c;simp_all
 obtain⟨rfl,rfl⟩:=trodVars_none y;have L:∀ j∈O,j.block<a.heap.size:=by obtain⟨i,g⟩:=am;exact DataW.trod_lt i _ _ _ g
 have G:=am;have M:∀ j∈P,j.block<a.heap.size:=by obtain⟨i,g⟩:=f;exact DataW.trod_lt i _ _ _ g
 have I:=f;obtain⟨U,rfl,rfl,rfl,T⟩:=open_int Tryz.underlying22 (h 0 22 r rfl rfl) am;obtain⟨u,K,v,rfl⟩:=okWide_slice Tryz.underlying23 (h 1 23 s rfl rfl);obtain⟨J,D,E,F,B⟩:=open_list (V:=Gy) (ok:=(qK a)) Tryz.underlying23 Pq (by omega) (fun _ _ _ b=>Yf b) f;clear hA0 m;refine(jZ U u K v J a (Z4 T) D B F E).mono fun e t ⟨A,x⟩=>?_
 subst A;have d:Below a.heap.size a t:=x.below (AY _) fun _ _ b=>b
 exact⟨_,rfl,_,_,_,[],_,[],z,trodAll_mk1 (shut_bool Tryz.underlying4 _),(trodAll_cons_mk (Below.trod laid (by kernel_rfl) (of_decide_eq_true (by kernel_rfl)) G d L) (trodAll_cons_mk (Below.trod laid (by kernel_rfl) (of_decide_eq_true (by kernel_rfl)) I d M) trodAll_mk0)),rfl,d.frame _,fun b=>by cases b⟩
theorem dW:(laidOutB Tryz.pinned.checked.prog)=true:=by kernel_rfl
theorem dX:(mapsRowed Tryz.pinned.checked.prog)=true:=by kernel_rfl
theorem dY:((Rows.topUsersRow.inPlace==Tryz.pinned.checked.prog.inPlace 3))=true:=by kernel_rfl
theorem dZ:((Rows.topUsersRow.unfollowed==Tryz.pinned.checked.prog.unfollowed 3))=true:=by kernel_rfl
theorem d9:((Rows.topUsersRow.recurses==Tryz.pinned.checked.prog.recurses 3))=true:=by kernel_rfl
theorem eB:((Rows.topUsersRow.named==Tryz.pinned.checked.prog.varsNamed 3))=true:=by kernel_rfl
theorem eD:(Tryz.pinned.checked.prog.stopsHeard)=true:=by kernel_rfl
theorem eF:(Tryz.pinned.checked.prog.mayEnter)=true:=by kernel_rfl
theorem YM:joinedFacts Tryz.pinned.checked.prog 3 Tryz.f3 Rows.topUsersSpec Rows.topUsersRow=true:=by
 unfold joinedFacts;simp only[De]
 and_intros
 all_goals first
  |(with_reducible exact dW)
  |(with_reducible exact dX)
  |(with_reducible exact dY)
  |(with_reducible exact dZ)
  |(with_reducible exact d9)
  |(with_reducible exact eB)
  |(with_reducible exact eD)
  |(with_reducible exact eF)
  |(as_aux_lemma=>kernel_rfl)
theorem QF:Rows.topUsersRow.holds Tryz.pinned (OpenSpec.ofChange Rows.topUsersSpec) :=
 OpenClaim.holds_of_wide 3 Tryz.f3 rfl rfl rfl rfl rfl rfl rfl ⟨rfl,rfl,rfl,rfl,rfl⟩ rfl rfl rfl rfl rfl (by as_aux_lemma=>kernel_rfl) Tryz.func3 YM
  (of_decide_eq_true (by as_aux_lemma=>kernel_rfl)) (by unfold Func.isWrapper;first|(rw[AQ (by decide +kernel)];kernel_rfl)|(rw[Bg (by decide +kernel)];exact⟨rfl,rfl⟩))
  (fun a b H enc _=>OL a b H enc)
theorem topUsers_proved:Rows.TopUsersSaid:=QF
#print axioms topUsers_proved
end
end Go.Proofs.YtcjcndnjpedniaaGreat
