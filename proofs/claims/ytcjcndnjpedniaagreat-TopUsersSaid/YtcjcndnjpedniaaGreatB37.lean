/- A part of the proof of TopUsers. -/
import Derived.Test.YtcjcndnjpedniaaGreatB36
namespace Go.Proofs.YtcjcndnjpedniaaGreat
set_option linter.all false
set_option maxRecDepth 100000
set_option maxHeartbeats 8000000
open Go.RowKit
section
variable {w w' W:Bc} {x:Option Nat} {cs:List Eb} {o:Nat->Nat} {wd:GL} {s:IZ} {c:Ca}
theorem X9 (b:Addr) (k:Nat) (e:ED s.cs w o) (h:Cn c) (i:Ay Value.string w w.heap.size 1 (some b) c.Bl) (j:c.Aq%8192<300) :
  Calls Tryz.prog 9 #[zP s.wd.wb,.agg #[zI 13,zO,zI 1,zO,zO,zO,zO,zN,zI c.kind,zU c.Aq,.string c.Ad,.slice (some b) c.Bl.length k,zI c.BX,zI c.till,zI c.AO,zU 0,zE,zE,zN]] w (Rt (.tuple #[]) (Au w)):=by
 obtain⟨m,f,_,_⟩:=e.p 0 _ rfl;refine(Mx s.wd.wb 13 0 1 0 0 (zI c.kind) (zU c.Aq) (.string c.Ad) (.slice (some b) c.Bl.length k) (zI c.BX) (zI c.till) (zI c.AO) Au w f.lt (by simp) (by simp) (by simp) (fun _ _ a=>by simp at a) (fun _ _ a=>by simp at a) (fun _ _ a=>by simp at a) (fun a=>by simp at a) fun W d _=>mU b k (e.AB d) rfl rfl h (i.AB d) j).mono ?_;rintro l w' ⟨rfl,W,d,g⟩;exact⟨rfl,d.to g⟩
theorem VC (b:Addr) (k:Nat) (f:ED s.cs w o) (h:s.wd.L=[]) (p:Cn c) (q:Ay Value.string w w.heap.size 1 (some b) c.Bl) (i:Pg x o w b.block) (j:b.block<w.heap.size) (r:300<=c.Aq%8192) (u:s.S.length<1000) :
  Calls Tryz.prog 9 #[zP s.wd.wb,.agg #[zI 13,zO,zI 1,zO,zO,zO,zO,zN,zI c.kind,zU c.Aq,.string c.Ad,.slice (some b) c.Bl.length k,zI c.BX,zI c.till,zI c.AO,zU 0,zE,zE,zN]] w (Rt (.tuple #[]) fun w'=>∃ S',Ik s.S S' (c.Aq,Dy (Db c))/\FE x ({s with wd:={s.wd with L:=[(0,1,Dy (Gp [c]))]},S:=S'}:IZ).cs o w w'):=by
 obtain⟨v,m,_,_⟩:=f.p 0 _ rfl;refine(Mx s.wd.wb 13 0 1 0 0 (zI c.kind) (zU c.Aq) (.string c.Ad) (.slice (some b) c.Bl.length k) (zI c.BX) (zI c.till) (zI c.AO) (fun W w'=>oL x s.cs s.wd c s.S s.M W o w') w m.lt (by simp) (by simp) (by simp) (fun _ _ a=>by simp at a) (fun _ _ a=>by simp at a) (fun _ _ a=>by simp at a) (fun a=>by simp at a) fun W d _=>jS b k (f.AB d) rfl rfl p (q.AB d) ⟨i.1,fun l n e=>i.2 l n (e.same d j id)⟩ (Bj j d.size) r (by omega) (by rw[h];simp)).mono ?_;rintro e w' ⟨rfl,W,d,S',t,g⟩;rw[h] at g;exact⟨rfl,S',t,g.after d⟩
theorem gV (e:ED s.cs w o) (a:NG s) (j:s.wd.L=[]) (r:s.d0.L=[]) (u:s.S.length<1000) {y:DZ} (t:s.d1.ob=some y) :
  Calls Tryz.prog 9 #[zP s.wd.wb,.agg #[zI 2,zO,zI 1,zO,zO,zO,zO,zN,zO,zU 0,zE,zN,zO,zO,zO,zU 0,zE,zE,zN]] w (Rt (.tuple #[]) fun w'=>∃ S' C,Ik s.S S' (8293,Dy (Db (He s.d0 16435 1 1)))/\(∀ c,c∈C↔c=Dx 0 0 1)/\C.length<=1/\FE x ({s with wd:={s.wd with L:=[(0,1,Dy (Hm 16435 (C++[He s.d0 16435 1 1])))]},S:=S',d0:={s.d0 with L:=[(16435,1,0)]}}:IZ).cs o w w'):=by
 obtain⟨v,n,_,_⟩:=e.p 0 _ rfl;have q:Cn (He s.d0 16435 1 1):=Tv (by rw[a.aN];omega) (by rw[a.aN];exact⟨by omega,by omega⟩) ⟨by omega,by omega⟩ (by omega) (by rw[a.OI];omega) (by rw[a.OI];omega) (by rw[a.X5];omega) (by rw[a.X5];omega) (by omega) (by omega) (by omega) (by omega);have p:Cn (Dx 0 0 1):=Lt (by omega) (by omega) (by omega) (by omega) (by omega) (by omega);have l:GY (Dx 0 0 1) 0=true:=by unfold GY Dx;simp
 refine(Mx s.wd.wb 2 0 1 0 0 zO (zU 0) (zE) (zN) zO zO zO (fun W w'=>kH x s.cs s.wd s.wd.kb 16435 s.d0 s.L0 s.S s.M [] W o w') w n.lt (by simp) (fun _=>⟨s.d0.nb,Kc e rfl a.n0⟩) (by simp) (fun _ _ b=>by simp at b) (fun W f _=>Zx 0 0 zO (zU 0) (zE) (zN) zO zO zO (e.AB f) rfl rfl rfl rfl rfl a.n0 a.n1 a.k0 t a.QM (by rw[j];simp) r (by omega) a.OI (by rw[a.WQ];omega) (by rw[a.WQ];omega) (by rw[a.OI,a.WQ];omega) q (fun c k=>by rw[a.ok0] at k;rw[Ai.1 k];exact p) (by rw[a.ok0];simp) (Dx 0 0 1) (by rw[a.ok0];simp) (by rw[a.X5];exact l)) (fun _ _ b=>by simp at b) (fun b=>by simp at b) fun _ _ b=>by simp at b).mono ?_;rintro d w' ⟨rfl,W,f,S',C,m,hC,h,i⟩;rw[a.aN] at m;rw[a.ok0] at hC h;rw[a.X5] at hC;rw[j,show ∀ g:BB,(s.d0.num,(1:Int),g)=(0,1,g) from fun g=>by rw[a.OI]] at i;exact⟨rfl,S',C,m,fun c=>(hC c).trans ⟨fun d=>Ai.1 d.1,fun d=>⟨Ai.2 d,by rw[d];exact l⟩⟩,h,i.after f⟩
theorem lQ {nx op arg:Int} (d:ED s.cs w o) (b:NG s) (h:s.wd.L=[]) (k:s.d0.L=[(16435,1,nx)]) (hC:s.d0.C=[]) (p:s.M.length<1000) (m:0<=nx) (l:nx<=1000) (ha:G8 op arg) :
  Calls Tryz.prog 9 #[zP s.wd.wb,.agg #[zI 3,zO,zO,zO,zI op,zI arg,zO,zN,zO,zU 0,zE,zN,zO,zO,zO,zU 0,zE,zE,zN]] w (Rt (.tuple #[]) fun w'=>∃ c,Wrote s.M c ((16435,0,nx,Dy (F8 16435 nx op arg)),0)/\FE x ({s with wd:={s.wd with L:=[(0,1,Dy (F8 16435 nx op arg))]},M:=c,d0:={s.d0 with L:=[(16435,1,nx+1)],C:=[(16435,nx,op,arg)]}}:IZ).cs o w w'):=by
 obtain⟨q,j,_,_⟩:=d.p 0 _ rfl;refine(Mx s.wd.wb 3 0 0 op arg zO (zU 0) (zE) (zN) zO zO zO (fun W w'=>kG x s.cs s.wd s.wd.kb 16435 nx op arg s.d0 s.S s.M [] W o w') w j.lt (by simp) (fun _=>⟨s.d0.nb,Kc d rfl b.n0⟩) (by simp) (fun _ _ a=>by simp at a) (fun W e _=>Zw zO (zU 0) (zE) (zN) zO zO zO (d.AB e) rfl rfl rfl b.n0 b.k0 (by rw[h];simp) k hC (by omega) b.OI ⟨by omega,by omega⟩ (by omega) m l ha) (fun _ _ a=>by simp at a) (fun a=>by simp at a) fun _ _ a=>by simp at a).mono ?_;rintro n w' ⟨rfl,W,e,c,i,g⟩;rw[b.OI] at i;rw[h,show ∀ f:BB,(s.d0.num,(1:Int),f)=(0,1,f) from fun f=>by rw[b.OI]] at g;exact⟨rfl,c,i,g.after e⟩
theorem Tx (f:Nat) (d:Nat->Bc->Prop) (n:Nat) (s:n<=2) (o:d n w)
  (k:∀ W,d 0 W->Calls Tryz.prog 38 #[zP f] W fun e w'=>∃ A c,e= .returned (.slice A 0 c)/\d 0 w')
  (l:∀ j W,d (j+1) W->Calls Tryz.prog 38 #[zP f] W fun e w'=>∃ A c,e= .returned (.slice A 1 c)/\d (j+1) w')
  (m:∀ j W,d (j+1) W->Calls Tryz.prog 9 #[zP f,.agg #[zI 8,zO,zO,zO,zO,zO,zO,zN,zO,zU 0,zE,zN,zO,zO,zO,zU 0,zE,zE,zN]] W (Rt (.tuple #[]) fun w'=>d j w')) :
  Calls Tryz.prog 11 #[zP f] w (Rt (.tuple #[]) fun w'=>d 0 w'):=by
 have g:=Lh k;have h:=Lh l;have i:=Lh m;have b:=Lh o;clear k l m o;obtain rfl|rfl|rfl:n=0∨n=1∨n=2:=by omega
 ·go_in;go_upto_region 1 with(fail)
  refine wp_loop_rounds 1 ?_;rw[rounds_succ];go_wp2_with (go_at_call 38;refine(g.out _ b.out).mono ?_;rintro e r ⟨A,c,rfl,a⟩;replace b:=Lh a;clear a);go_end0;exact⟨rfl,b.out⟩
 ·go_in;go_upto_region 1 with(fail)
  refine wp_loop_rounds 2 ?_;rw[rounds_succ];go_upto_region 2 with(first|(go_at_call 38;refine(h.out _ _ b.out).mono ?_;rintro e p ⟨A,c,rfl,a⟩;replace b:=Lh a;clear a)|(go_at_call 9;refine(i.out _ _ b.out).mono ?_;rintro e q ⟨rfl,a⟩;replace b:=Lh a;clear a))
  go_wp2;rw[rounds_succ];go_wp2_with (go_at_call 38;refine(g.out _ b.out).mono ?_;rintro e r ⟨A,c,rfl,a⟩;replace b:=Lh a;clear a);go_end0;exact⟨rfl,b.out⟩
 ·go_in;go_upto_region 1 with(fail)
  refine wp_loop_rounds 3 ?_;rw[rounds_succ];go_upto_region 2 with(first|(go_at_call 38;refine(h.out _ _ b.out).mono ?_;rintro e p ⟨A,c,rfl,a⟩;replace b:=Lh a;clear a)|(go_at_call 9;refine(i.out _ _ b.out).mono ?_;rintro e q ⟨rfl,a⟩;replace b:=Lh a;clear a))
  go_wp2;rw[rounds_succ];go_upto_region 2 with(first|(go_at_call 38;refine(h.out _ _ b.out).mono ?_;rintro e p ⟨A,c,rfl,a⟩;replace b:=Lh a;clear a)|(go_at_call 9;refine(i.out _ _ b.out).mono ?_;rintro e q ⟨rfl,a⟩;replace b:=Lh a;clear a))
  go_wp2;rw[rounds_succ];go_wp2_with (go_at_call 38;refine(g.out _ b.out).mono ?_;rintro e r ⟨A,c,rfl,a⟩;replace b:=Lh a;clear a);go_end0;exact⟨rfl,b.out⟩
end

structure SX (n:Nat) (nx l:Int) (R:List (Int × Int × Int × Int)) (y:DZ) (s:IZ):Prop where
 ok:NG s
 L:s.wd.L=[]
 l0:s.d0.L=[(16435,1,nx)]
 c:s.d0.C=[]
 r:s.d0.R=R
 e:s.E=[(16435,[C8 [16435]],l)]
 ob:s.d1.ob=some y
 bS:s.S.length<=n
 bM:s.M.length<=n
 bL:s.L1.length<=n
 bu:s.uses<=n
 bY:s.Y.length<=n
 bn:s.num<=n
 hf:s.half<=1
 tn:∀ q∈s.Y,q.1.turn<=(s.L1.length:Int)
def WJ (L:List Ca) (arg:Int) (y:DZ) (er v:Int) (b:DZ):Prop :=
 ∃ a d,(∀ c,c∈d↔c∈L/\GY c 0=true)/\RD FW d [y.who] [C8 [16435]] 200 a/\((a=2/\er=12/\v=0/\b=y)∨(a=0/\er=13/\v=0/\b=y)∨(a=1/\er=0/\v=y.value+arg/\b=y.add arg))
def CI (n:Nat) (nx op arg:Int) (y:DZ) (s:IZ):Nat->IZ->Prop
 |0=>fun a=>∃ er v c,SX (n+2) (nx+1) nx (s.d0.R++[(16435,nx,er,v)]) c a/\WJ s.L1 arg y er v c/\a.L1=s.L1/\a.b=s.b/\a.wd.wb=s.wd.wb/\a.d0.nb=s.d0.nb/\a.d1.nb=s.d1.nb/\a.S=s.S
 |1=>fun d=>∃ b,Wrote s.M b ((16435,0,nx,Dy (F8 16435 nx op arg)),0)/\Pf 16435 nx op arg [C8 [16435]] y {s with wd:={s.wd with L:=[(0,1,Dy (F8 16435 nx op arg))]},M:=b,d0:={s.d0 with L:=[(16435,1,nx+1)],C:=[(16435,nx,op,arg)]}} d
 |2=>fun e=>∃ b,Wrote s.M b ((16435,0,nx,Dy (F8 16435 nx op arg)),0)/\e = {s with wd:={s.wd with L:=[(0,1,Dy (F8 16435 nx op arg))]},M:=b,d0:={s.d0 with L:=[(16435,1,nx+1)],C:=[(16435,nx,op,arg)]}}
 |_=>fun _=>False
def SN (n:Nat) (nx op arg:Int) (y:DZ) (s:IZ) (w:Bc) (o:Nat->Nat) (j:Nat) (W:Bc):Prop:=∃ s',CI n nx op arg y s j s'/\FE (some s.b) s'.cs o w W
section
variable {w w' W:Bc} {x:Option Nat} {o o1:Nat->Nat} {s s':IZ} {c:Ca} {n:Nat} {nx l op arg:Int} {R:List (Int × Int × Int × Int)} {y:DZ}
theorem NG.same (a:NG s) {e:GL} {b d:Fb} {S':List Led.Vl} {h:List Led.Made} {f:List Ca} {g:List (Int × List BB × Int)} {y:Int} {i:List (Iu × Int)} {x v:Nat}
  (z:e.n0=s.wd.n0) (A:e.n1=s.wd.n1) (w2:e.kb=s.wd.kb) (j:b.nb=s.d0.nb) (k:b.kb=s.d0.kb) (l:b.num=s.d0.num) (m:b.key=s.d0.key) (n:b.Kh=s.d0.Kh) (o:b.boot=s.d0.boot) (p:d.nb=s.d1.nb) (q:d.kb=s.d1.kb) (r:d.num=s.d1.num) (t:d.Kh=s.d1.Kh) (u:d.boot=s.d1.boot) (w:∀ c∈f,Cn c) :
  NG {s with wd:=e,S:=S',M:=h,d0:=b,d1:=d,L1:=f,E:=g,uses:=y,Y:=i,num:=x,half:=v} :=
 ⟨by show e.n0=some b.nb;rw[z,j];exact a.n0,by show e.n1=some d.nb;rw[A,p];exact a.n1,by show b.kb=e.kb;rw[k,w2];exact a.k0,by show d.kb=e.kb;rw[q,w2];exact a.k1,l.trans a.OI,r.trans a.NW,m.trans a.aN,n.trans a.X5,t.trans a.oP,o.trans a.WQ,u.trans a.QM,a.ok0,w⟩
theorem jT:D9 [C8 [16435]]=true:=IU (Ip ⟨by omega,by omega⟩ (by omega))
theorem Z8 (c:ED s.cs w o) (a:SX n nx l R y s) (i:n<=100) (d:0<=nx) (h:nx<=900) (ha:G8 op arg) :
  Calls Tryz.prog 9 #[zP s.wd.wb,.agg #[zI 3,zO,zO,zO,zI op,zI arg,zO,zN,zO,zU 0,zE,zN,zO,zO,zO,zU 0,zE,zE,zN]] w (Rt (.tuple #[]) fun w'=>SN n nx op arg y s w o 2 w'):=by
 refine(lQ (x:=some s.b) c a.ok a.L a.l0 a.c (by have:=a.bM;omega) d (by omega) ha).mono ?_;rintro g w' ⟨rfl,b,f,e⟩;exact⟨rfl,_,⟨b,f,rfl⟩,e⟩
theorem Z7 (a:SX n nx l R y s) (z:n<=20) (f:0<=nx) (u:nx<=900) (m:l<nx) (ha:G8 op arg) (c:G9 y) (r:y.op=op) (e:y.value+arg<=1000000) (p:y.version<=1000000) (ht:∀ q∈s.Y,q.1.turn<(s.L1.length:Int)) (h:SN n nx op arg y s w o 2 W) :
  Calls Tryz.prog 9 #[zP s.wd.wb,.agg #[zI 8,zO,zO,zO,zO,zO,zO,zN,zO,zU 0,zE,zN,zO,zO,zO,zU 0,zE,zE,zN]] W (Rt (.tuple #[]) fun w'=>SN n nx op arg y s w o 1 w'):=by
 obtain⟨_,⟨d,b,rfl⟩,o1,i,j⟩:=h;have x:=ha.a1;have v:=ha.a0;refine(gU (ch:=16435) (nx:=nx) (l:=l) (op:=op) (arg:=arg) (cw:=[C8 [16435]]) (y:=y) i (a.ok.same rfl rfl rfl rfl rfl rfl rfl rfl rfl rfl rfl rfl rfl rfl a.ok.ok1) rfl a.e a.ob ⟨by omega,by omega⟩ (by omega) c r ha (by have:=a.bL;show s.L1.length<=20;omega) jT (fun q hq=>by rw[Ai.1 hq,FD];simp) ht (by have:=a.bu;show s.uses<=1000;omega) (by have:=a.bY;show s.Y.length<=100;omega) f (by omega) m e (KZ (by omega) e p c.o8 (ET c.may)) (by have:=a.bn;show s.num+1<256;omega) a.hf (by have:=a.bM;have:=b.len;show d.length<1000;omega) b.has).mono ?_;rintro t w' ⟨rfl,s',k,g⟩;exact⟨rfl,s',⟨d,b,k⟩,FE.trans j g⟩
theorem Z6 (a:SX n nx l R y s) (ae:n<=20) (C:0<=nx) (U:nx<=900) (ha:G8 op arg) (H:G9 y) (ah:y.value+arg<=1000000) (X:R.length<=50) (E:SN n nx op arg y s w o 1 W) :
  Calls Tryz.prog 9 #[zP s.wd.wb,.agg #[zI 8,zO,zO,zO,zO,zO,zO,zN,zO,zU 0,zE,zN,zO,zO,zO,zU 0,zE,zE,zN]] W (Rt (.tuple #[]) fun w'=>SN n nx op arg y s w o 0 w'):=by
 obtain⟨al,⟨i,t,⟨z,g,p,j,b,d,m,B,u,e,hq,k,rfl⟩⟩,o1,F,G⟩:=E;have Z:=ha.a1;have Y:=ha.a0;have ai:=H.v0;have f:0<=b/\b<=100/\0<=d/\d<=1000000:=by
  rcases hq.r with⟨_,q,r,_⟩|⟨_,q,r,_⟩|⟨_,q,r,_⟩<;>omega
 refine(ZQ (x:=some s.b) (ch:=16435) (nx:=nx) (l2:=nx+1) (op:=op) (arg:=arg) (er:=b) (v:=d) F (a.ok.same rfl rfl rfl rfl rfl rfl rfl rfl rfl rfl rfl rfl rfl rfl a.ok.ok1) rfl rfl rfl (by show s.d0.R.length<=100;rw[a.r];omega) (by have:=a.bM;have:=t.len;have V:e.length<=i.length+1:=k.len;show e.length<=2000;omega) k.has ⟨by omega,by omega⟩ (by omega) C (by omega) f.1 f.2.1 f.2.2.1 f.2.2.2).mono ?_;rintro T w' ⟨rfl,D⟩;have ab:=t.len;have ac:e.length<=i.length+1:=k.len;have ag:p<=s.uses+1:=hq.us;have ad:j.length<=s.Y.length+1:=hq.ln;have af:m<=s.num+1:=hq.nn;have L:=a.bS;have M:=a.bM;have N:=a.bL;have O:=a.bu;have P:=a.bY;have Q:=a.bn;refine⟨rfl,({s with wd:={s.wd with L:=[]},M:=e,d0:={s.d0 with L:=[(16435,1,nx+1)],C:=[],R:=s.d0.R++[(16435,nx,b,d)]},d1:={s.d1 with ob:=some u},E:=[(16435,[C8 [16435]],nx)],uses:=p,Y:=j,num:=m,half:=B}:IZ),⟨b,d,u,⟨a.ok.same rfl rfl rfl rfl rfl rfl rfl rfl rfl rfl rfl rfl rfl rfl a.ok.ok1,rfl,rfl,rfl,rfl,rfl,rfl,?_,?_,?_,?_,?_,?_,hq.hh,hq.tn⟩,⟨z,g,fun c=>?_,hq.an,hq.r⟩,rfl,rfl,rfl,rfl,rfl,rfl⟩,FE.trans G D⟩
 ·show s.S.length<=n+2;omega
 ·show e.length<=n+2;omega
 ·show s.L1.length<=n+2;omega
 ·show p<=((n+2:Nat):Int);omega
 ·show j.length<=n+2;omega
 ·show m<=n+2;omega
 ·have:=hq.iff c;rw[show({s with wd:={s.wd with L:=[(0,1,Dy (F8 16435 nx op arg))]},M:=i,d0:={s.d0 with L:=[(16435,1,nx+1)],C:=[(16435,nx,op,arg)]}}:IZ).d1.Kh=0 from a.ok.oP] at this;exact this
theorem XU {j:Nat} (h:SN n nx op arg y s w o (j+1) W):Calls Tryz.prog 38 #[zP s.wd.wb] W fun e w'=>∃ A c,e= .returned (.slice A 1 c)/\SN n nx op arg y s w o (j+1) w':=by
 obtain⟨s',hC,b⟩:=h;have d:s'.wd.L.length=1/\s'.wd.wb=s.wd.wb:=by
  rcases j with _|_|j
  ·obtain⟨f,_,⟨_,_,_,_,_,_,_,_,_,_,_,_,rfl⟩⟩:=hC;exact⟨rfl,rfl⟩
  ·obtain⟨f,_,rfl⟩:=hC;exact⟨rfl,rfl⟩
  ·cases hC
 have g:=b;obtain⟨o1,k,l⟩:=g;have a:=Kj (j:=0) (wd:=s'.wd) k rfl (by omega);rw[d.1,d.2] at a;refine a.mono ?_;rintro e w' ⟨A,c,rfl,i⟩;exact⟨A,c,rfl,s',hC,b.AB i⟩
theorem XT (h:SN n nx op arg y s w o 0 W):Calls Tryz.prog 38 #[zP s.wd.wb] W fun e w'=>∃ A c,e= .returned (.slice A 0 c)/\SN n nx op arg y s w o 0 w':=by
 obtain⟨s',hC,b⟩:=h;have f:=hC;obtain⟨_,_,_,d,_,_,_,l,_⟩:=f;have g:=b;obtain⟨o1,k,m⟩:=g;have a:=Kj (j:=0) (wd:=s'.wd) k rfl (by rw[d.L];simp);rw[d.L,l] at a;refine a.mono ?_;rintro e w' ⟨A,c,rfl,i⟩;exact⟨A,c,rfl,s',hC,b.AB i⟩
theorem Xx (f:SX n nx l R y s) (e:n<=20) (c:0<=nx) (d:nx<=900) (k:l<nx) (ha:G8 op arg) (h:G9 y) (p:y.op=op) (g:y.value+arg<=1000000) (m:y.version<=1000000) (ht:∀ q∈s.Y,q.1.turn<(s.L1.length:Int)) (j:R.length<=50) (i:SN n nx op arg y s w o 2 W) :
  Calls Tryz.prog 11 #[zP s.wd.wb] W (Rt (.tuple #[]) fun w'=>SN n nx op arg y s w o 0 w'):=
 Tx s.wd.wb (SN n nx op arg y s w o) 2 (by omega) i (fun W a=>XT a) (fun b W a=>XU a) fun b W a=>by
  rcases b with _|_|b
  ·exact Z6 f e c d ha h g j a
  ·exact Z7 f e c d k ha h p g m ht a
  ·obtain⟨_,hC,_⟩:=a;cases hC
def SI (c:Ca) (s:IZ):Nat->IZ->Prop
 |0=>fun b=>∃ S' a,(∀ q∈s.S,q∈S')/\S'.length<=s.S.length+1/\((300<=c.Aq%8192/\a=Jw s.L1 c)∨(c.Aq%8192<300/\a=s.L1))/\b = {s with wd:={s.wd with L:=[]},S:=S',L1:=a}
 |1=>fun d=>∃ S',300<=c.Aq%8192/\Ik s.S S' (c.Aq,Dy (Db c))/\d = {s with wd:={s.wd with L:=[(0,1,Dy (Gp [c]))]},S:=S'}
 |_=>fun _=>False
def lG (c:Ca) (s:IZ) (w:Bc) (o:Nat->Nat) (j:Nat) (W:Bc):Prop:=∃ s',SI c s j s'/\FE (some s.b) s'.cs o w W
theorem mR (a:s.wd.L=[]):({s with wd:={s.wd with L:=[]}}:IZ)=s:=by
 rcases s with⟨⟨_,_,_,_,_,_,_,L⟩,_,_,_,_,_,_,_,_,_,_,_,_,_,_,_⟩
 simp only at a;subst a;rfl
theorem pI (a:Addr) (k:Nat) (b:ED s.cs w o) (d:SX n nx l R y s) (u:n<=20) (f:Cn c) (g:Ay Value.string w w.heap.size 1 (some a) c.Bl) (q:Pg (some s.b) o w a.block) (r:a.block<w.heap.size) :
  Calls Tryz.prog 9 #[zP s.wd.wb,.agg #[zI 13,zO,zI 1,zO,zO,zO,zO,zN,zI c.kind,zU c.Aq,.string c.Ad,.slice (some a) c.Bl.length k,zI c.BX,zI c.till,zI c.AO,zU 0,zE,zE,zN]] w (Rt (.tuple #[]) fun w'=>∃ j,j<=1/\lG c s w o j w'):=by
 by_cases h:c.Aq%8192<300
 ·refine(X9 a k b f g h).mono ?_;rintro m w' ⟨rfl,e⟩;exact⟨rfl,0,by omega,_,⟨s.S,s.L1,fun _ b=>b,by omega,.inr ⟨h,rfl⟩,(mR d.L).symm⟩,o,b.AB e,Ew.refl.AB e⟩
 ·refine(VC (x:=some s.b) a k b d.L f g q r (by omega) (by have:=d.bS;omega)).mono ?_;rintro m w' ⟨rfl,i,t,p⟩;exact⟨rfl,1,by omega,_,⟨i,by omega,t,rfl⟩,p⟩
theorem pG (a:SX n nx l R y s) (m:n<20) (j:Cn c) (g:lG c s w o 1 W) :
  Calls Tryz.prog 9 #[zP s.wd.wb,.agg #[zI 8,zO,zO,zO,zO,zO,zO,zN,zO,zU 0,zE,zN,zO,zO,zO,zU 0,zE,zE,zN]] W (Rt (.tuple #[]) fun w'=>lG c s w o 0 w'):=by
 obtain⟨_,⟨d,e,b,rfl⟩,o1,h,i⟩:=g;refine(ZO (x:=some s.b) (c:=c) h (a.ok.same rfl rfl rfl rfl rfl rfl rfl rfl rfl rfl rfl rfl rfl rfl a.ok.ok1) rfl j b.has (by have:=a.bL;show s.L1.length<20;omega)).mono ?_;rintro k w' ⟨rfl,f⟩;exact⟨rfl,_,⟨d,_,b.sub,b.len,.inl ⟨e,rfl⟩,rfl⟩,FE.trans i f⟩
theorem dN {j:Nat} (x:j<=1) (u:SX n nx l R y s) (r:n<20) (t:Cn c) (p:lG c s w o j W) :
  Calls Tryz.prog 11 #[zP s.wd.wb] W (Rt (.tuple #[]) fun w'=>lG c s w o 0 w'):=
 Tx s.wd.wb (lG c s w o) j (by omega) p (fun W a=>by
  obtain⟨s',hC,b⟩:=a;have e:=hC;obtain⟨k,v,_,_,_,rfl⟩:=e;have f:=b;obtain⟨o1,h,q⟩:=f;refine(Kj (j:=0) (wd:={s.wd with L:=[]}) h rfl (by simp)).mono ?_;rintro m w' ⟨d,c,rfl,g⟩;exact⟨d,c,rfl,_,hC,b.AB g⟩) (fun j W a=>by
  rcases j with _|j
  ·obtain⟨s',hC,b⟩:=a;have e:=hC;obtain⟨k,_,_,rfl⟩:=e;have f:=b;obtain⟨o1,h,q⟩:=f;refine(Kj (j:=0) (wd:={s.wd with L:=[(0,1,Dy (Gp [c]))]}) h rfl (by simp)).mono ?_;rintro m w' ⟨d,c,rfl,g⟩;exact⟨d,c,rfl,_,hC,b.AB g⟩
  ·obtain⟨_,hC,_⟩:=a;cases hC) fun j W a=>by
  rcases j with _|j
  ·exact pG u r t a
  ·obtain⟨_,hC,_⟩:=a;cases hC
theorem SI.mQ (a:SX n nx l R y s) (o:Cn c) (m:SI c s 0 s'):SX (n+1) nx l R y s'/\(∀ d∈s'.L1,d∈s.L1∨d=c)/\s.L1.length<=s'.L1.length/\s'.b=s.b/\s'.wd.wb=s.wd.wb/\s'.d0.nb=s.d0.nb/\s'.d1.nb=s.d1.nb/\s'.Y=s.Y/\s'.uses=s.uses:=by
 obtain⟨h,b,q,j,k,rfl⟩:=m;have f:(∀ d∈b,d∈s.L1∨d=c)/\s.L1.length<=b.length/\b.length<=s.L1.length+1:=by
  rcases k with⟨_,rfl⟩|⟨_,rfl⟩
  ·refine⟨fun d e=>SY e,?_,gD⟩;unfold Jw;split<;>simp
  ·exact⟨fun d e=>.inl e,AY _,Nat.le_succ _⟩
 have u:=a.bS;have t:=a.bM;have r:=a.bL;have x:=a.bu;have v:=a.bY;have w:=a.bn;refine⟨⟨a.ok.same rfl rfl rfl rfl rfl rfl rfl rfl rfl rfl rfl rfl rfl rfl fun d e=>(f.1 d e).elim (a.ok.ok1 d) fun i=>by rw[i];exact o,rfl,a.l0,a.c,a.r,a.e,a.ob,?_,?_,?_,?_,?_,?_,a.hf,fun g hq=>?_⟩,f.1,f.2.1,rfl,rfl,rfl,rfl,rfl,rfl⟩
 ·show h.length<=n+1;omega
 ·show s.M.length<=n+1;omega
 ·show b.length<=n+1;omega
 ·show s.uses<=((n+1:Nat):Int);omega
 ·show s.Y.length<=n+1;omega
 ·show s.num<=n+1;omega
 ·have p:=a.tn g hq;have j:=f.2.1;show g.1.turn<=(b.length:Int);omega
end

def Hd:Ca:=⟨3,8293,C8 [16435],[Eu 0],0,4611686018427387904,4⟩
theorem gN {s:IZ} (a:NG s):He s.d0 16435 1 1=Hd:=by
 unfold He Hd;rw[a.aN,a.OI,a.X5];rfl
theorem Pv:Cn Hd:=Tv (d:=⟨0,0,0,0,0,0,8293,0,0,1,none,[],[],[]⟩) (ch:=16435) (nd:=1) (bt:=1) (by show(8293:Int)/8192=1;omega) ⟨by show(0:Int)<=8293;omega,by show(8293:Int)<=65535;omega⟩ ⟨by omega,by omega⟩ (by omega) (by show(0:Int)<=0;omega) (by show(0:Int)<=2;omega) (by show(0:Int)<=0;omega) (by show(0:Int)<=1000;omega) (by omega) (by omega) (by omega) (by omega)
def oF (y:DZ) (wb a:Nat) (s:IZ):Prop:=(NG s/\s.wd.wb=wb/\s.wd.L=[]/\s.d0.L=[]/\s.d0.C=[]/\s.d0.R=[]/\s.d1.ob=some y/\(8193,Dy (Db (Dx 0 0 1)))∈s.S/\s.S.length<=2/\s.M=[]/\s.L1=[Dx 1 0 1]/\s.E=[]/\s.uses=0/\s.Y=[]/\s.num=2/\s.half=0/\a<=s.b)
structure oG (y:DZ) (wb n0:Nat) (s:IZ):Prop where
 mQ:SX 4 0 (-1) [] y s
 wb:s.wd.wb=wb
 mem:∀ c∈s.L1,c=Dx 0 0 1∨c=Dx 1 0 1∨c=Hd
 m0:Dx 0 0 1∈s.L1
 mx:Hd∈s.L1
 Y:s.Y=[]
 ge:n0<=s.b
def Ke (y:DZ) (wb:Nat) (wA:Bc) (oA:Nat->Nat):Nat->Bc->Prop
 |0=>fun W=>∃ a d0 d1 e o,ED [Dr ⟨wb,none,d0,none,d1,e,a,[]⟩,Eg a [] [] [],II d0 (I4 none),II d1 (I4 (some y))] W o/\Ew none oA o wA W
 |1=>fun W=>∃ (wd:GL) (S:List Led.Vl) (d:Fb) (b:Nat) (o:Nat->Nat),wd.wb=wb/\wd.n0=some d.nb/\wd.n1=none/\wd.L=[]/\Ph d 0 wd.kb none/\(8193,Dy (Db (Dx 0 0 1)))∈S/\S.length<=1/\ED [Dr wd,Eg wd.kb S [] [],Dv d,Dz b d.st 60 [Dx 0 0 1],II wd.d1 (I4 (some y))] W o/\Ew none oA o wA W
 |2=>fun W=>∃ s o,oF y wb wA.heap.size s/\ED s.cs W o/\Ew none oA o wA W
 |3=>fun W=>∃ (s:IZ) (S':List Led.Vl) (C:List Ca) (o:Nat->Nat),oF y wb wA.heap.size s/\Ik s.S S' (8293,Dy (Db Hd))/\(∀ c,c∈C↔c=Dx 0 0 1)/\C.length<=1/\ED ({s with wd:={s.wd with L:=[(0,1,Dy (Hm 16435 (C++[Hd])))]},S:=S',d0:={s.d0 with L:=[(16435,1,0)]}}:IZ).cs W o/\Ew none oA o wA W
 |4=>fun W=>∃ s o,oG y wb wA.heap.size s/\ED s.cs W o/\Ew none oA o wA W
 |_=>fun _=>False
section
variable {w w' W wA:Bc} {o o1 o' oA:Nat->Nat} {s:IZ} {y:DZ} {wb:Nat}
theorem Ew.low {b:Nat} (d:Ew none oA o wA W) (k:Ew (some b) o o' W w') (j:wA.heap.size<=b):Ew none oA o' wA w':=by
 have e:∀ a,a<wA.heap.size->Pg none oA wA a->Pg (some b) o W a:=fun a c hF=>⟨d.z a c hF,fun i f g=>by cases f;have:=g.1;omega⟩
 exact⟨d.t.AJ k.t fun a c h hF=>h (e a c hF),fun a c hF=>k.z a (Bj c d.t.size) (e a c hF)⟩
theorem kW (s:G9 y) (q:(FM 0 (some y)).length<=32) (r:(FM 1 (some y)).length<=32) (j:Ke y wb wA oA 0 W) :
  Calls Tryz.prog 9 #[zP wb,.agg #[zI 1,zO,zO,zO,zO,zO,zO,zN,zO,zU 0,zE,zN,zO,zO,zO,zU 0,zE,zE,zN]] W (Rt (.tuple #[]) fun w'=>Ke y wb wA oA 1 w'):=by
 obtain⟨g,b,c,d,o,k,m⟩:=j;refine(TC (wd:=⟨wb,none,b,none,c,d,g,[]⟩) (ob:=some y) k rfl (by simp) (fun _ e=>by cases e;exact s) q r).mono ?_;rintro e w' ⟨rfl,a,i,h,o',p,f,l,n⟩;exact⟨rfl,⟨wb,some a.nb,b,none,c,d,g,[]⟩,h,a,i,o',rfl,rfl,rfl,rfl,p,f.has,f.len,l,m.trans n⟩
theorem kX (z:G9 y) (t:(FM 0 (some y)).length<=32) (u:(FM 1 (some y)).length<=32) (l:Ke y wb wA oA 1 W) :
  Calls Tryz.prog 9 #[zP wb,.agg #[zI 1,zI 1,zO,zO,zO,zO,zO,zN,zO,zU 0,zE,zN,zO,zO,zO,zU 0,zE,zE,zN]] W (Rt (.tuple #[]) fun w'=>Ke y wb wA oA 2 w'):=by
 obtain⟨c,C,k,j,o,rfl,w,x,m,a,v,E,n,g⟩:=l;refine(TD (wd:=c) (ob:=some y) n x (by omega) (fun _ f=>by cases f;exact z) t u).mono ?_;rintro f w' ⟨rfl,e,i,B,A,d,o',b,h,p,q,r,_⟩;refine⟨rfl,⟨{c with n1:=some e.nb},d,[],k,[Dx 0 0 1],e,[Dx 1 0 1],[],0,[],2,0,j,i,B,A⟩,o',⟨⟨w,rfl,a.kb,b.kb,a.num,b.num,a.key.trans (by omega),a.Kh,b.Kh,a.boot,b.boot,rfl,fun D s=>?_⟩,rfl,m,a.L,a.C,a.R,b.ob,h.sub _ v,by have:=h.len;show d.length<=2;omega,rfl,rfl,rfl,rfl,rfl,rfl,rfl,AV g.t.size r⟩,p,g.trans q⟩;rw[Ai.1 s];exact Lt (by omega) (by omega) (by omega) (by omega) (by omega) (by omega)
theorem kY (g:Ke y wb wA oA 2 W) :
  Calls Tryz.prog 9 #[zP wb,.agg #[zI 2,zO,zI 1,zO,zO,zO,zO,zN,zO,zU 0,zE,zN,zO,zO,zO,zU 0,zE,zE,zN]] W (Rt (.tuple #[]) fun w'=>Ke y wb wA oA 3 w'):=by
 obtain⟨s,o,c,j,k⟩:=g;have p:=c;obtain⟨b,rfl,i,m,r,v,n,u,t,_⟩:=p;refine(gV (x:=none) j b i m (by omega) n).mono ?_;rintro q w' ⟨rfl,f,e,d,hC,h,o',a,l⟩;rw[gN b] at d a;exact⟨rfl,s,f,e,o',c,d,hC,h,a,k.trans l⟩
theorem kZ (r:Ke y wb wA oA 3 W) :
  Calls Tryz.prog 9 #[zP wb,.agg #[zI 8,zO,zO,zO,zO,zO,zO,zN,zO,zU 0,zE,zN,zO,zO,zO,zU 0,zE,zE,zN]] W (Rt (.tuple #[]) fun w'=>Ke y wb wA oA 4 w'):=by
 obtain⟨s,m,k,o,⟨i,rfl,P,S,a,H,G,F,R,x,n,w,I,f,T,Q,q⟩,j,hC,v,z,B⟩:=r;have u:k=[Dx 0 0 1]:=by
  have t:=(hC (Dx 0 0 1)).2 rfl;rcases k with _|⟨b,_|⟨_,_⟩⟩
  ·cases t
  ·rw[(hC b).1 (by simp)]
  ·simp at v
 subst u;have e:Cn (Dx 0 0 1):=Lt (by omega) (by omega) (by omega) (by omega) (by omega) (by omega);have g:Cn (Dx 1 0 1):=Lt (by omega) (by omega) (by omega) (by omega) (by omega) (by omega);have D:Lm s.L1 ([Dx 0 0 1]++[Hd])=[Dx 1 0 1,Dx 0 0 1,Hd]:=by
  rw[n];show Jw (Jw [Dx 1 0 1] (Dx 0 0 1)) Hd=_;rw[Pm e (fun d c=>by rw[Ai.1 c];exact g) fun d c=>by rw[Ai.1 c];show(8193+1:Int)≠8193+0;omega];rw[Pm Pv (fun d c=>?_) fun d c=>?_]
  ·rfl
  ·simp only[Df,BU,BI,CW,or_false] at c;rcases c with rfl|rfl
   ·exact g
   ·exact e
  ·simp only[Df,BU,BI,CW,or_false] at c;rcases c with rfl|rfl
   ·show(8193+1:Int)≠8293;omega
   ·show(8193+0:Int)≠8293;omega
 have h:∀ b∈[Dx 0 0 1]++[Hd],b=Dx 0 0 1∨b=Hd:=fun b a=>by simpa using a
 refine(ZP (L:=[Dx 0 0 1]++[Hd]) z (i.same rfl rfl rfl rfl rfl rfl rfl rfl rfl rfl rfl rfl rfl rfl i.ok1) rfl w (fun b a=>?_) (fun b a=>?_) (fun b a E=>?_) ⟨Hd,by simp,rfl⟩ (by simp) (by show s.L1.length<=20;rw[n];simp)).mono ?_
 ·rcases h b a with rfl|rfl
  ·exact e
  ·exact Pv
 ·rcases h b a with rfl|rfl
  ·exact j.sub _ F
  ·exact j.has
 ·rcases h b a with rfl|rfl
  ·exact Bv (show(1:Int)=3 from E) (by omega)
  ·exact⟨rfl,rfl,rfl⟩
 ·rintro O w' ⟨rfl,o',A,C⟩;have p:=A;rw[show Lm (IZ.L1 _) ([Dx 0 0 1]++[Hd])=[Dx 1 0 1,Dx 0 0 1,Hd] from D] at p;have U:=j.len;refine⟨rfl,({s with wd:={s.wd with L:=[]},S:=m,d0:={s.d0 with L:=[(16435,1,0)]},L1:=[Dx 1 0 1,Dx 0 0 1,Hd],E:=[(16435,[C8 [16435]],-1)]}:IZ),o',⟨⟨i.same rfl rfl rfl rfl rfl rfl rfl rfl rfl rfl rfl rfl rfl rfl fun d c=>?_,rfl,rfl,a,H,rfl,G,?_,?_,?_,?_,?_,?_,?_,?_⟩,rfl,fun b a=>?_,?_,?_,f,q⟩,p,B.low C q⟩
  ·simp only[BI,CW,or_false] at c;rcases c with rfl|rfl|rfl
   ·exact g
   ·exact e
   ·exact Pv
  ·show m.length<=4;omega
  ·show s.M.length<=4;rw[x];simp
  ·show[Dx 1 0 1,Dx 0 0 1,Hd].length<=4;simp
  ·show s.uses<=((4:Nat):Int);rw[I];omega
  ·show s.Y.length<=4;rw[f];simp
  ·show s.num<=4;omega
  ·show s.half<=1;omega
  ·intro J hq;have hq:J∈s.Y:=hq;rw[f] at hq;cases hq
  ·have a:b∈[Dx 1 0 1,Dx 0 0 1,Hd]:=a;simp only[BI,CW,or_false] at a;rcases a with rfl|rfl|rfl
   ·exact .inr (.inl rfl)
   ·exact .inl rfl
   ·exact .inr (.inr rfl)
  ·show Dx 0 0 1∈[Dx 1 0 1,Dx 0 0 1,Hd];simp
  ·show Hd∈[Dx 1 0 1,Dx 0 0 1,Hd];simp
end

theorem Gl {W:Bc} {g n:Nat} {t:TypeId} {vs:Array Value} {cs:List Value} (c:AX W g t vs) (b:vs.toList=vs.toList.take n++(cs++vs.toList.drop (n+cs.length))) (e:n<=vs.size):W.rangeAt g n cs:=fun f h a=>by
 rw[c.cell,<- Em,b,Cq (AV (List.length_take_le _ _) (Nat.le_add_right _ _)),BA,EL (by simpa using e),Nat.add_sub_cancel_left];have d:=(AC.1 a).1;rw[Cx d];exact a
theorem Xe (w:Bc) (a:BB) (op v:Int):Er (((w.alloc (.cells #[.string a] 27)).alloc (.cells #[zI op,zS w.heap.size 0 1 1] 40)).alloc (.cells #[zI v,.slice (some (zA (w.heap.size+1) 0)) 1 1,zO] 43)) (w.heap.size+2) 0 (w.heap.size+1) 0 w.heap.size 0 1 1 ⟨v,0,op,a⟩:=by
 have b:AX (((w.alloc (.cells #[.string a] 27)).alloc (.cells #[zI op,zS w.heap.size 0 1 1] 40)).alloc (.cells #[zI v,.slice (some (zA (w.heap.size+1) 0)) 1 1,zO] 43)) (w.heap.size+2) 43 #[zI v,.slice (some (zA (w.heap.size+1) 0)) 1 1,zO]:=AX.at_ _ _ (by simp);have c:AX (((w.alloc (.cells #[.string a] 27)).alloc (.cells #[zI op,zS w.heap.size 0 1 1] 40)).alloc (.cells #[zI v,.slice (some (zA (w.heap.size+1) 0)) 1 1,zO] 43)) (w.heap.size+1) 40 #[zI op,zS w.heap.size 0 1 1]:=(AX.at_ _ _ (by simp)).alloc _;have d:AX (((w.alloc (.cells #[.string a] 27)).alloc (.cells #[zI op,zS w.heap.size 0 1 1] 40)).alloc (.cells #[zI v,.slice (some (zA (w.heap.size+1) 0)) 1 1,zO] 43)) w.heap.size 27 #[.string a]:=((AX.new w _ _).alloc _).alloc _;exact⟨⟨_,b⟩,⟨_,c⟩,⟨_,d⟩,b.cell 0,b.cell 1,b.cell 2,c.cell 0,c.cell 1,d.cell 0⟩
section
variable {w w' W W' wA:Bc} {oA o:Nat->Nat} {y:DZ} {wb j:Nat} {s:IZ}
theorem SN.AB {n:Nat} {nx op arg:Int} (a:SN n nx op arg y s w o j W) (c:Au W W'):SN n nx op arg y s w o j W':=by
 obtain⟨d,hC,b⟩:=a;exact⟨d,hC,b.AB c⟩
theorem Ke.AB (e:Ke y wb wA oA j W) (a:Au W W'):Ke y wb wA oA j W':=by
 rcases j with _|_|_|_|_|j
 ·obtain⟨w,p,q,r,o,b,c⟩:=e;exact⟨w,p,q,r,o,b.AB a,c.AB a⟩
 ·obtain⟨x,k,n,m,o,d,f,g,h,t,u,v,b,c⟩:=e;exact⟨x,k,n,m,o,d,f,g,h,t,u,v,b.AB a,c.AB a⟩
 ·obtain⟨s,o,d,b,c⟩:=e;exact⟨s,o,d,b.AB a,c.AB a⟩
 ·obtain⟨s,l,i,o,d,f,g,h,b,c⟩:=e;exact⟨s,l,i,o,d,f,g,h,b.AB a,c.AB a⟩
 ·obtain⟨s,o,d,b,c⟩:=e;exact⟨s,o,d,b.AB a,c.AB a⟩
 ·cases e
theorem Ke.stay (b:Ke y wb wA oA j W):∃ o,Ew none oA o wA W:=by
 rcases j with _|_|_|_|_|j
 ·obtain⟨v,n,p,q,o,c,a⟩:=b;exact⟨o,a⟩
 ·obtain⟨w,i,m,l,o,d,e,f,g,r,t,u,c,a⟩:=b;exact⟨o,a⟩
 ·obtain⟨s,o,d,c,a⟩:=b;exact⟨o,a⟩
 ·obtain⟨s,k,h,o,d,e,f,g,c,a⟩:=b;exact⟨o,a⟩
 ·obtain⟨s,o,d,c,a⟩:=b;exact⟨o,a⟩
 ·cases b
def WI (y:DZ) (wb:Nat) (wA:Bc) (oA:Nat->Nat) (j:Nat) (W:Bc):Prop:=∃ s o a,oG y wb wA.heap.size s/\ED s.cs a o/\Ew none oA o wA a/\SN 4 0 0 0 y s a o j W
theorem WI.AB (b:WI y wb wA oA j W) (c:Au W W'):WI y wb wA oA j W':=by
 obtain⟨s,o,a,f,d,e,hC⟩:=b;exact⟨s,o,a,f,d,e,hC.AB c⟩
theorem WI.stay (a:WI y wb wA oA j W):∃ o,Ew none oA o wA W:=by
 obtain⟨s,o,f,d,g,b,i,hC,e,h,c⟩:=a;exact⟨e,b.low c d.ge⟩
theorem Vr:G8 0 0:=⟨.inl rfl,by omega,by omega,fun _=>rfl⟩
theorem qN (d:Ke y wb wA oA 4 W):Calls Tryz.prog 9 #[zP wb,.agg #[zI 3,zO,zO,zO,zO,zO,zO,zN,zO,zU 0,zE,zN,zO,zO,zO,zU 0,zE,zE,zN]] W (Rt (.tuple #[]) fun w'=>WI y wb wA oA 2 w'):=by
 obtain⟨s,o,a,b,f⟩:=d;have c:=Z8 (op:=0) (arg:=0) b a.mQ (by omega) (by omega) (by omega) Vr;rw[a.wb] at c;refine c.mono ?_;rintro g w' ⟨rfl,e⟩;exact⟨rfl,s,o,W,a,b,f,e⟩
theorem qM (h:G9 y) (i:y.op=0) (k:y.value<=1000) (l:y.version=0) (e:WI y wb wA oA 2 W):Calls Tryz.prog 9 #[zP wb,.agg #[zI 8,zO,zO,zO,zO,zO,zO,zN,zO,zU 0,zE,zN,zO,zO,zO,zU 0,zE,zE,zN]] W (Rt (.tuple #[]) fun w'=>WI y wb wA oA 1 w'):=by
 obtain⟨s,o,d,a,f,g,b⟩:=e;have c:=Z7 a.mQ (by omega) (by omega) (by omega) (by omega) Vr h i (by omega) (by omega) (by rw[a.Y];intro m hq;cases hq) b;rw[a.wb] at c;refine c.mono ?_;rintro j w' ⟨rfl,b⟩;exact⟨rfl,s,o,d,a,f,g,b⟩
theorem qL (h:G9 y) (j:y.value<=1000) (e:WI y wb wA oA 1 W):Calls Tryz.prog 9 #[zP wb,.agg #[zI 8,zO,zO,zO,zO,zO,zO,zN,zO,zU 0,zE,zN,zO,zO,zO,zU 0,zE,zE,zN]] W (Rt (.tuple #[]) fun w'=>WI y wb wA oA 0 w'):=by
 obtain⟨s,o,d,b,f,g,a⟩:=e;have c:=Z6 b.mQ (by omega) (by omega) (by omega) Vr h (by omega) (by simp) a;rw[b.wb] at c;refine c.mono ?_;rintro i w' ⟨rfl,a⟩;exact⟨rfl,s,o,d,b,f,g,a⟩
theorem UZ:G9 (⟨5,0,0,Eu 0⟩:DZ):=⟨by show(0:Int)<=5;omega,by show(5:Int)<=4611686018427387904;omega,by show(0:Int)<=0;omega,by show(0:Int)<=4611686018427387904;omega,by show(0:Int)<=0;omega,by show(0:Int)<8;omega,IM (by omega) (by omega)⟩
theorem Rk:(Eu 0).size<=16:=by unfold Eu;rw[FD];simp
theorem lL (j:WI (⟨5,0,0,Eu 0⟩:DZ) wb wA oA 0 W):∃ s o,ED s.cs W o/\NG s/\s.wd.wb=wb/\s.d0.R=[(16435,0,0,5)]/\s.E=[(16435,[C8 [16435]],0)]:=by
 obtain⟨s,o,v,a,y,z,r,⟨i,t,C,b,⟨e,u,hC,k,n⟩,x,B,p,_⟩,q,l,A⟩:=j;have w:e=1:=by
  refine Zv (ch:=16435) Hd rfl rfl rfl ⟨by omega,by omega⟩ (by omega) k (fun c m=>a.mem c ((hC c).1 m).1) ((hC _).2 ⟨a.m0,?_⟩) ((hC _).2 ⟨a.mx,?_⟩)
  ·unfold GY Dx;simp
  ·unfold GY Hd;simp
 have d:i=0/\t=5:=by
  rcases n with⟨f,_⟩|⟨f,_⟩|⟨_,g,h,_⟩
  ·omega
  ·omega
  ·exact⟨g,by rw[h];show(5:Int)+0=5;omega⟩
 refine⟨r,q,l,b.ok,p.trans a.wb,?_,b.e⟩;rw[b.r,a.mQ.r,d.1,d.2];rfl
theorem X4 {s:IZ} (a:ED s.cs W o) {q:Int × List BB × Int} (f:s.E=[q]):Calls Tryz.prog 16 #[zP s.d1.nb] W fun e w'=>∃ A c,e= .returned (.slice A 1 c)/\Au W w':=by
 obtain⟨d,g,i,_⟩:=a.table (j:=6) rfl;obtain⟨n,m,l,p,h⟩:=a.node (j:=4) rfl;have k:d.length=1:=by
  have:=Bu List.length g;rw[Be,f] at this;exact this
 have b:=RL (nb:=s.d1.nb) i (by omega) (h.BR.cell 1);rw[k] at b;exact b
def awA:Nat->Array Value
 |0=>#[zI 1,zO,zO,zO,zO,zO,zO,zN,zO,zU 0,zE,zN,zO,zO,zO,zU 0,zE,zE,zN]
 |1=>#[zI 1,zI 1,zO,zO,zO,zO,zO,zN,zO,zU 0,zE,zN,zO,zO,zO,zU 0,zE,zE,zN]
 |2=>#[zI 2,zO,zI 1,zO,zO,zO,zO,zN,zO,zU 0,zE,zN,zO,zO,zO,zU 0,zE,zE,zN]
 |3=>#[zI 8,zO,zO,zO,zO,zO,zO,zN,zO,zU 0,zE,zN,zO,zO,zO,zU 0,zE,zE,zN]
 |4=>#[zI 3,zO,zO,zO,zO,zO,zO,zN,zO,zU 0,zE,zN,zO,zO,zO,zU 0,zE,zE,zN]
 |_=>#[zI 8,zO,zO,zO,zO,zO,zO,zN,zO,zU 0,zE,zN,zO,zO,zO,zU 0,zE,zE,zN]
def Zc (y:DZ) (wb:Nat) (wA:Bc) (oA:Nat->Nat) (j:Nat) (W:Bc):Prop:=if j<5 then Ke y wb wA oA j W else WI y wb wA oA (7-j) W
theorem Zc.AB (a:Zc y wb wA oA j W) (c:Au W W'):Zc y wb wA oA j W':=by
 unfold Zc at a ⊢;split at a
 ·rename_i b;rw[AQ b];exact Ke.AB a c
 ·rename_i b;rw[Bg b];exact WI.AB a c
theorem Zc.stay (a:Zc y wb wA oA j W):∃ o,Ew none oA o wA W:=by
 unfold Zc at a;split at a
 ·exact Ke.stay a
 ·exact WI.stay a
theorem WO (j:Nat):(awA j).size=19:=by
 rcases j with _|_|_|_|_|j<;>rfl
theorem Zz (j:Nat):(awA j).all (·.oneCell')=true:=by
 rcases j with _|_|_|_|_|j<;>simp[awA,Value.oneCell']
theorem Z0 {b:Nat} (a:AX W b 51 #[zI 1,zO,zO,zO,zO,zO,zO,zN,zO,zU 0,zE,zN,zO,zO,zO,zU 0,zE,zE,zN,zI 1,zI 1,zO,zO,zO,zO,zO,zN,zO,zU 0,zE,zN,zO,zO,zO,zU 0,zE,zE,zN,zI 2,zO,zI 1,zO,zO,zO,zO,zN,zO,zU 0,zE,zN,zO,zO,zO,zU 0,zE,zE,zN,zI 8,zO,zO,zO,zO,zO,zO,zN,zO,zU 0,zE,zN,zO,zO,zO,zU 0,zE,zE,zN,zI 3,zO,zO,zO,zO,zO,zO,zN,zO,zU 0,zE,zN,zO,zO,zO,zU 0,zE,zE,zN,zI 8,zO,zO,zO,zO,zO,zO,zN,zO,zU 0,zE,zN,zO,zO,zO,zU 0,zE,zE,zN,zI 8,zO,zO,zO,zO,zO,zO,zN,zO,zU 0,zE,zN,zO,zO,zO,zU 0,zE,zE,zN]) (c:j<7):W.rangeAt b (j*19) (awA j).toList:=by
 rcases j with _|_|_|_|_|_|_|j
 ·exact Gl a rfl (by simp)
 ·exact Gl a rfl (by simp)
 ·exact Gl a rfl (by simp)
 ·exact Gl a rfl (by simp)
 ·exact Gl a rfl (by simp)
 ·exact Gl a rfl (by simp)
 ·exact Gl a rfl (by simp)
 ·omega
theorem NB (bt:Int) (a:bt<=127):(FM bt (some (⟨5,0,0,Eu 0⟩:DZ))).length<=32:=KZ a (by show(5:Int)<=1000000;omega) (by show(0:Int)<=1000000;omega) (by show(0:Int)<8;omega) Rk
theorem gL (b:j<7) (a:Zc (⟨5,0,0,Eu 0⟩:DZ) wb wA oA j W):Calls Tryz.prog 9 #[zP wb,.agg (awA j)] W (Rt (.tuple #[]) fun w'=>Zc (⟨5,0,0,Eu 0⟩:DZ) wb wA oA (j+1) w'):=by
 rcases j with _|_|_|_|_|_|_|j
 ·exact kW UZ (NB 0 (by omega)) (NB 1 (by omega)) a
 ·exact kX UZ (NB 0 (by omega)) (NB 1 (by omega)) a
 ·exact kY a
 ·exact kZ a
 ·exact qN a
 ·exact qM UZ rfl (by show(5:Int)<=1000;omega) rfl a
 ·exact qL UZ (by show(5:Int)<=1000;omega) a
 ·omega
theorem Xt (w:Bc):Calls Tryz.prog 4 #[] w (Rt (.bool true) (Au w)):=by
 have bc:Hid (∀ w:Bc,Calls Tryz.prog 14 #[zO] w (Rt (.string (Eu 0)) (Au w))):=Lh fun W=>bI 0 W (by omega) (by omega)
 have bd:=Lh fun(x bv e:Nat) (W:Bc) (bz:Er W x 0 bv 0 e 0 1 1 (⟨5,0,0,Eu 0⟩:DZ))=>UV 1 W bz UZ (KZ (by omega) (by show(5:Int)<=1000000;omega) (by show(0:Int)<=1000000;omega) (by show(0:Int)<8;omega) Rk)
 have B:Hid (AX (w.alloc (.cells #[zO,zN,zO,zN,zO,zN] 37)) w.heap.size 37 #[zO,zN,zO,zN,zO,zN]):=Lh (AX.new w _ _);have ad:=Lh ((T0 w).alloc (.cells #[zO,zN,zO,zN,zO,zN] 37));go_in;go_upto_region 2 with(fail)
 generalize w.alloc (.cells #[zO,zN,zO,zN,zO,zN] 37)=cv at B ad ⊢;obtain⟨h,X⟩:∃ x,x=w.heap.size:=⟨_,rfl⟩
 rw[<- X] at B ⊢;have bq:=Lh X;clear X;go_upto_region 3 with(go_at_call 14;(with_reducible refine(bc.out _).mono ?_);rintro db l ⟨rfl,a⟩;have A:=Lh (Xe l (Eu 0) 0 5);have R:=((((T0 l).alloc (.cells #[.string (Eu 0)] 27)).alloc (.cells #[zO,zS l.heap.size 0 1 1] 40)).alloc (.cells #[zI 5,.slice (some (zA (l.heap.size+1) 0)) 1 1,zO] 43));have r:=Lh ((B.out.Ab a id).Ab R id);have I:=Lh ((ad.out.to a).to R);clear a R;have Y:=r.out.cell 3;have ch:=r.out.frozen 3)
 clear Y ch;generalize ((l.alloc (.cells #[.string (Eu 0)] 27)).alloc (.cells #[zO,zS l.heap.size 0 1 1] 40)).alloc (.cells #[zI 5,.slice (some (zA (l.heap.size+1) 0)) 1 1,zO] 43)=n at A r I ⊢;generalize l.heap.size=e at A ⊢;have S:Am (fun k=>k=h) n (n.setCell (zA h 3) (.slice (some (zA (e+2) 0)) 1 1)):=(Aa (fun k=>k=h) n).setCell (p:=zA h 3) (fun _=>rfl) _;have ag:Hid (AX (n.setCell (zA h 3) (.slice (some (zA (e+2) 0)) 1 1)) h 37 #[zO,zN,zO,.slice (some (zA (e+2) 0)) 1 1,zO,zN]):=Lh (r.out.Dw 3 (.slice (some (zA (e+2) 0)) 1 1));have z:=A.out;have F:∀ k Z ay,AX n k Z ay->Z≠37->¬k=h:=fun k Z ay O ht db=>AX.GJ O r.out ht db
 have af:Hid (Er (n.setCell (zA h 3) (.slice (some (zA (e+2) 0)) 1 1)) (e+2) 0 (e+1) 0 e 0 1 1 (⟨5,0,0,Eu 0⟩:DZ)):=Lh (z.far S (by obtain⟨_,c⟩:=z.b1;exact F _ _ _ c (by decide)) (by obtain⟨_,c⟩:=z.b2;exact F _ _ _ c (by decide)) (by obtain⟨_,c⟩:=z.b3;exact F _ _ _ c (by decide)));have J:=Lh (I.out.AJ S fun k hq db=>by have:=bq.out;omega);clear S z F A r I B;generalize n.setCell (zA h 3) (.slice (some (zA (e+2) 0)) 1 1)=cw at ag af J ⊢;go_upto_region 4 with(first
  |(refine AA rfl (.tmp 1) rfl rfl ag.out Tryz.underlying37 rfl NK ?_)
  |(go_at_call 8;(with_reducible refine(bd.out _ _ _ _ af.out).mono ?_);rintro db q ⟨wb,cd,bs,bt,bu,t,rfl,f,m⟩;have bp:Hid (∀ dc,dc<w.heap.size->t dc=0):=Lh fun dc a=>m.z dc (Bj a J.out.size) ⟨rfl,fun b c=>by cases c⟩;have ai:=Lh f;have bl:=Lh (J.out.to (m.t.mono fun dc a U=>U ⟨rfl,fun b c=>by cases c⟩));clear f m))
 go_upto_region 6 with(fail)
 have H:Hid (AX (q.alloc (.cells #[zI 1,zO,zO,zO,zO,zO,zO,zN,zO,zU 0,zE,zN,zO,zO,zO,zU 0,zE,zE,zN,zI 1,zI 1,zO,zO,zO,zO,zO,zN,zO,zU 0,zE,zN,zO,zO,zO,zU 0,zE,zE,zN,zI 2,zO,zI 1,zO,zO,zO,zO,zN,zO,zU 0,zE,zN,zO,zO,zO,zU 0,zE,zE,zN,zI 8,zO,zO,zO,zO,zO,zO,zN,zO,zU 0,zE,zN,zO,zO,zO,zU 0,zE,zE,zN,zI 3,zO,zO,zO,zO,zO,zO,zN,zO,zU 0,zE,zN,zO,zO,zO,zU 0,zE,zE,zN,zI 8,zO,zO,zO,zO,zO,zO,zN,zO,zU 0,zE,zN,zO,zO,zO,zU 0,zE,zE,zN,zI 8,zO,zO,zO,zO,zO,zO,zN,zO,zU 0,zE,zN,zO,zO,zO,zU 0,zE,zE,zN] 51)) q.heap.size 51 #[zI 1,zO,zO,zO,zO,zO,zO,zN,zO,zU 0,zE,zN,zO,zO,zO,zU 0,zE,zE,zN,zI 1,zI 1,zO,zO,zO,zO,zO,zN,zO,zU 0,zE,zN,zO,zO,zO,zU 0,zE,zE,zN,zI 2,zO,zI 1,zO,zO,zO,zO,zN,zO,zU 0,zE,zN,zO,zO,zO,zU 0,zE,zE,zN,zI 8,zO,zO,zO,zO,zO,zO,zN,zO,zU 0,zE,zN,zO,zO,zO,zU 0,zE,zE,zN,zI 3,zO,zO,zO,zO,zO,zO,zN,zO,zU 0,zE,zN,zO,zO,zO,zU 0,zE,zE,zN,zI 8,zO,zO,zO,zO,zO,zO,zN,zO,zU 0,zE,zN,zO,zO,zO,zU 0,zE,zE,zN,zI 8,zO,zO,zO,zO,zO,zO,zN,zO,zU 0,zE,zN,zO,zO,zO,zU 0,zE,zE,zN]):=Lh (AX.new q _ _);have Q:=(T0 q).alloc (.cells #[zI 1,zO,zO,zO,zO,zO,zO,zN,zO,zU 0,zE,zN,zO,zO,zO,zU 0,zE,zE,zN,zI 1,zI 1,zO,zO,zO,zO,zO,zN,zO,zU 0,zE,zN,zO,zO,zO,zU 0,zE,zE,zN,zI 2,zO,zI 1,zO,zO,zO,zO,zN,zO,zU 0,zE,zN,zO,zO,zO,zU 0,zE,zE,zN,zI 8,zO,zO,zO,zO,zO,zO,zN,zO,zU 0,zE,zN,zO,zO,zO,zU 0,zE,zE,zN,zI 3,zO,zO,zO,zO,zO,zO,zN,zO,zU 0,zE,zN,zO,zO,zO,zU 0,zE,zE,zN,zI 8,zO,zO,zO,zO,zO,zO,zN,zO,zU 0,zE,zN,zO,zO,zO,zU 0,zE,zE,zN,zI 8,zO,zO,zO,zO,zO,zO,zN,zO,zU 0,zE,zN,zO,zO,zO,zU 0,zE,zE,zN] 51);have aj:=Lh (ai.out.AB Q);have ae:=Lh (bl.out.to Q);have al:Hid (t q.heap.size=0):=Lh (ai.out.z _ (AY _));clear Q;go_upto_region 7 with(fail)
 generalize q.alloc (.cells #[zI 1,zO,zO,zO,zO,zO,zO,zN,zO,zU 0,zE,zN,zO,zO,zO,zU 0,zE,zE,zN,zI 1,zI 1,zO,zO,zO,zO,zO,zN,zO,zU 0,zE,zN,zO,zO,zO,zU 0,zE,zE,zN,zI 2,zO,zI 1,zO,zO,zO,zO,zN,zO,zU 0,zE,zN,zO,zO,zO,zU 0,zE,zE,zN,zI 8,zO,zO,zO,zO,zO,zO,zN,zO,zU 0,zE,zN,zO,zO,zO,zU 0,zE,zE,zN,zI 3,zO,zO,zO,zO,zO,zO,zN,zO,zU 0,zE,zN,zO,zO,zO,zU 0,zE,zE,zN,zI 8,zO,zO,zO,zO,zO,zO,zN,zO,zU 0,zE,zN,zO,zO,zO,zU 0,zE,zE,zN,zI 8,zO,zO,zO,zO,zO,zO,zN,zO,zU 0,zE,zN,zO,zO,zO,zU 0,zE,zE,zN] 51)=wA at H aj ae ⊢;generalize q.heap.size=N at H al ⊢;generalize Value.agg #[zI 1,zO,zO,zO,zO,zO,zO,zN,zO,zU 0,zE,zN,zO,zO,zO,zU 0,zE,zE,zN]=cp;generalize Value.agg #[zI 1,zI 1,zO,zO,zO,zO,zO,zN,zO,zU 0,zE,zN,zO,zO,zO,zU 0,zE,zE,zN]=cq;generalize Value.agg #[zI 2,zO,zI 1,zO,zO,zO,zO,zN,zO,zU 0,zE,zN,zO,zO,zO,zU 0,zE,zE,zN]=cr;generalize Value.agg #[zI 8,zO,zO,zO,zO,zO,zO,zN,zO,zU 0,zE,zN,zO,zO,zO,zU 0,zE,zE,zN]=cs;generalize Value.agg #[zI 3,zO,zO,zO,zO,zO,zO,zN,zO,zU 0,zE,zN,zO,zO,zO,zU 0,zE,zE,zN]=ct;have bo:Hid (Loc t wA N 51 #[zI 1,zO,zO,zO,zO,zO,zO,zN,zO,zU 0,zE,zN,zO,zO,zO,zU 0,zE,zE,zN,zI 1,zI 1,zO,zO,zO,zO,zO,zN,zO,zU 0,zE,zN,zO,zO,zO,zU 0,zE,zE,zN,zI 2,zO,zI 1,zO,zO,zO,zO,zN,zO,zU 0,zE,zN,zO,zO,zO,zU 0,zE,zE,zN,zI 8,zO,zO,zO,zO,zO,zO,zN,zO,zU 0,zE,zN,zO,zO,zO,zU 0,zE,zE,zN,zI 3,zO,zO,zO,zO,zO,zO,zN,zO,zU 0,zE,zN,zO,zO,zO,zU 0,zE,zE,zN,zI 8,zO,zO,zO,zO,zO,zO,zN,zO,zU 0,zE,zN,zO,zO,zO,zU 0,zE,zE,zN,zI 8,zO,zO,zO,zO,zO,zO,zN,zO,zU 0,zE,zN,zO,zO,zO,zU 0,zE,zE,zN]):=Lh ⟨H.out,al.out,by decide,by decide⟩;have ac:Hid (Zc (⟨5,0,0,Eu 0⟩:DZ) wb wA t 0 wA):=Lh ⟨cd,bs,bt,bu,t,aj.out,Ew.refl⟩;go_loopg [36] 7 fun gk i wr=>∃ j:Nat,j+gk=7/\i=zI j/\Hid (Zc (⟨5,0,0,Eu 0⟩:DZ) wb wA t j wr)
 case atStart=>exact⟨0,by omega,rfl,ac⟩
 case round =>
 clear ac;obtain⟨j,T,rfl,u⟩:=hrel;by_cases ar:j<7
 ·have co:(0:Int)<=(j:Int):=by omega
  have ax:(j:Int)<7:=by omega
  have au:wr.rangeAt N (j*19) (awA j).toList:=by
   obtain⟨ce,m⟩:=u.out.stay;exact Z0 (bo.out.stay m).BR ar
  have ah:=Lh au;clear au;have br:Hid (AX (wr.alloc (.cells #[zO,zO,zO,zO,zO,zO,zO,zN,zO,zU 0,zE,zN,zO,zO,zO,zU 0,zE,zE,zN] 51)) wr.heap.size 51 #[zO,zO,zO,zO,zO,zO,zO,zN,zO,zU 0,zE,zN,zO,zO,zO,zU 0,zE,zE,zN]):=Lh (AX.new wr _ _);have an:=(T0 wr).alloc (.cells #[zO,zO,zO,zO,zO,zO,zO,zN,zO,zU 0,zE,zN,zO,zO,zO,zU 0,zE,zE,zN] 51);have bg:=Lh an;clear an;have av:=WO j;have C:=Lh av;clear av;go_upto_region 9 with(first
   |(refine wpList_load_mid rfl 51 (.tmp 38) rfl N _ rfl (awA j).toList _ (by first|exact ah.out|simpa using ah.out) Tryz.underlying51 rfl (by rw[show(awA j).toList.length=19 from by rw[Ci];exact C.out];exact Jr) ?_)
   |(refine Bo rfl (.tmp 5) (.tmp 39) rfl rfl (cs':=awA j) rfl br.out (by rw[C.out];exact Jr) (by rw[C.out];rfl) (Zz j) ?_;intro cx ao aq ca;clear ca;have ak:=Lh ao;have bj:=Lh (u.out.AB (bg.out.AJ aq fun dc a db=>by omega));clear ao aq))
  obtain⟨da,aw⟩:∃ x,x=wr.heap.size:=⟨_,rfl⟩
  rw[<- aw] at ak ⊢;clear aw;go_upto_region 10 with(first
   |(refine AA rfl (.tmp 5) rfl rfl ak.out Tryz.underlying51 rfl (by rw[C.out];exact Jr) ?_)
   |(go_at_call 9;(with_reducible refine(gL ar bj.out).mono ?_);rintro db cy ⟨rfl,T⟩;have bk:=Lh T;clear T))
  go_wp2;go_roundg (gk-1)
  case measure=>omega
  case rel=>exact⟨j+1,by omega,by go_num,bk⟩
 have bx:j=7:=by omega
 subst bx;have ax:¬((7:Nat):Int)<7:=by omega
 clear ax;generalize wr=d at u ⊢;obtain⟨s,o,f,V,cb,E,ap⟩:=lL u.out;have v:=Kc f rfl V.n0;have D:=Oi f rfl V.n1;have L:Cl d s.wd.wb 9 (zP s.wd.kb):=by
  obtain⟨cu,O,_⟩:=f.p 0 _ rfl;exact O.cell 9
 rw[cb] at v D L;have ab:=Lh (Oz (j:=2) f rfl (by rw[E];simp) (by rw[E];simp));rw[E] at ab;have az:=Lh fun W (P:Au d W)=>X4 (f.AB P) ap
 have ck:=Lh v;have bh:=Lh D;have bi:=Lh L;have be:Hid (Calls Tryz.prog 10 #[zP wb,zO] d (Rt (.bool true) fun w'=>d=w')):=Lh (N9 wb 0 s.d0.nb d (by omega) v);have bf:Hid (Calls Tryz.prog 10 #[zP wb,zI 1] d (Rt (.bool true) fun w'=>d=w')):=Lh (N9 wb 1 s.d1.nb d (by omega) D);have ba:Hid (Calls Tryz.prog 12 #[zP wb,zO] d (Rt (zP s.d0.nb) fun w'=>d=w')):=Lh (Jf wb 0 s.d0.nb d (by omega) v);have bb:Hid (∀ W,Au d W->Calls Tryz.prog 12 #[zP wb,zI 1] W (Rt (zP s.d1.nb) fun w'=>W=w')):=Lh fun W P=>Jf wb 1 s.d1.nb W (by omega) (Ae bh.out P)
 have bm:Hid (Au w d):=Lh (by
  obtain⟨ce,m⟩:=u.out.stay;exact(ae.out.mono (S':=fun _=>False) fun _ _ c=>c).AJ m.t fun dc a U=>U ⟨bp.out dc a,fun b c=>by cases c⟩)
 clear v D L f V E ap;go_wp2_with (first
  |(go_at_call 10;first|((with_reducible refine be.out.mono ?_);rintro db G ⟨rfl,g⟩;subst g)|((with_reducible refine bf.out.mono ?_);rintro db G ⟨rfl,g⟩;subst g))
  |(go_at_call 15;(with_reducible refine(YP _ _ _ bi.out).mono ?_);rintro db G ⟨rfl,g⟩;subst g)
  |(go_at_call 12;first|((with_reducible refine ba.out.mono ?_);rintro db G ⟨rfl,g⟩;subst g)|((with_reducible refine(bb.out _ K.out).mono ?_);rintro db G ⟨rfl,g⟩;subst g))
  |(go_at_call 13;(with_reducible refine ab.out.mono ?_);rintro db aa ⟨cj,cm,rfl,y,a⟩;obtain⟨M,cn,bw,_⟩:=J9 y (by simp);cases bw;have K:=Lh a;have cf:Cl aa M 0 (zU 16435):=y.cellAt 0 (by simp);have cg:Cl aa M 2 zO:=y.cellAt 2 (by simp);have Y:Cl aa M 3 (zI 5):=y.cellAt 3 (by simp);clear y a)
  |(go_at_call 16;(with_reducible refine(az.out _ K.out).mono ?_);rintro db cz ⟨ci,cl,rfl,a⟩;have bn:=Lh (K.out.to a);clear a cf cg Y))
 go_ret;exact⟨rfl,bm.out.to bn.out⟩
end

end Go.Proofs.YtcjcndnjpedniaaGreat
