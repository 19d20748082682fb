/- A part of the proof of TopUsers. -/
import Derived.RegionIn
import Derived.Test.YtcjcndnjpedniaaGreatB21
namespace Go.Proofs.YtcjcndnjpedniaaGreat
set_option linter.all false
set_option maxRecDepth 100000
set_option maxHeartbeats 8000000
open Go.RowKit
section
open Go.RowKit Go.Shelf
attribute [local go_sem] Oper.semAt_some
section
variable {w W W':Bc} {R:List Dj} {u:BB}
def JT (t:Array Value) (A:Option Addr) (n c:Nat) (u:BB) (b d e f m g a:Nat):Prop :=
 t.getD 0 undef= .slice A n c/\t.getD 1 undef= .string u/\t.getD 2 undef=zI (b:Int)/\t.getD 3 undef=undef/\t.getD 4 undef=undef/\t.getD 5 undef=zP d/\t.getD 6 undef=zP e/\t.getD 7 undef=zP f/\t.getD 8 undef=zP m/\t.getD 9 undef=zP g/\t.getD 10 undef=zP a
def JW (s:Bc) (h r o b n c:Nat) (A:Option Addr) (u:BB) (R:List Dj) (i j k m:Nat) (gk:Nat) (a:Act) (W:Bc):Prop :=
 ∃ (d g:Nat) (q p:Value) (l:BB->Option Nat) (f:List BB) (e:List Nat),d+gk=b+1/\Ve s W h g r o d q p l f e/\kJ R u b d f/\a.defers=marks e/\a.tmps.size=73/\JT a.tmps A n c u b i j k m h g
theorem kP (t:Array Value) (e:t.size=73):t=#[t.getD 0 undef,t.getD 1 undef,t.getD 2 undef,t.getD 3 undef,t.getD 4 undef,t.getD 5 undef,t.getD 6 undef,t.getD 7 undef,t.getD 8 undef,t.getD 9 undef,t.getD 10 undef,t.getD 11 undef,t.getD 12 undef,t.getD 13 undef,t.getD 14 undef,t.getD 15 undef,t.getD 16 undef,t.getD 17 undef,t.getD 18 undef,t.getD 19 undef,t.getD 20 undef,t.getD 21 undef,t.getD 22 undef,t.getD 23 undef,t.getD 24 undef,t.getD 25 undef,t.getD 26 undef,t.getD 27 undef,t.getD 28 undef,t.getD 29 undef,t.getD 30 undef,t.getD 31 undef,t.getD 32 undef,t.getD 33 undef,t.getD 34 undef,t.getD 35 undef,t.getD 36 undef,t.getD 37 undef,t.getD 38 undef,t.getD 39 undef,t.getD 40 undef,t.getD 41 undef,t.getD 42 undef,t.getD 43 undef,t.getD 44 undef,t.getD 45 undef,t.getD 46 undef,t.getD 47 undef,t.getD 48 undef,t.getD 49 undef,t.getD 50 undef,t.getD 51 undef,t.getD 52 undef,t.getD 53 undef,t.getD 54 undef,t.getD 55 undef,t.getD 56 undef,t.getD 57 undef,t.getD 58 undef,t.getD 59 undef,t.getD 60 undef,t.getD 61 undef,t.getD 62 undef,t.getD 63 undef,t.getD 64 undef,t.getD 65 undef,t.getD 66 undef,t.getD 67 undef,t.getD 68 undef,t.getD 69 undef,t.getD 70 undef,t.getD 71 undef,t.getD 72 undef]:=by
 obtain⟨a⟩:=t;have f:a.length=73:=e;have c:a=(List.range 73).map (fun b=>(Array.mk a).getD b undef):=by
  apply List.ext_getElem
  ·simp[f]
  ·intro i g h;simp[Array.getD,g]
 have d:(List.range 73).map (fun b=>(Array.mk a).getD b undef)=[(Array.mk a).getD 0 undef,(Array.mk a).getD 1 undef,(Array.mk a).getD 2 undef,(Array.mk a).getD 3 undef,(Array.mk a).getD 4 undef,(Array.mk a).getD 5 undef,(Array.mk a).getD 6 undef,(Array.mk a).getD 7 undef,(Array.mk a).getD 8 undef,(Array.mk a).getD 9 undef,(Array.mk a).getD 10 undef,(Array.mk a).getD 11 undef,(Array.mk a).getD 12 undef,(Array.mk a).getD 13 undef,(Array.mk a).getD 14 undef,(Array.mk a).getD 15 undef,(Array.mk a).getD 16 undef,(Array.mk a).getD 17 undef,(Array.mk a).getD 18 undef,(Array.mk a).getD 19 undef,(Array.mk a).getD 20 undef,(Array.mk a).getD 21 undef,(Array.mk a).getD 22 undef,(Array.mk a).getD 23 undef,(Array.mk a).getD 24 undef,(Array.mk a).getD 25 undef,(Array.mk a).getD 26 undef,(Array.mk a).getD 27 undef,(Array.mk a).getD 28 undef,(Array.mk a).getD 29 undef,(Array.mk a).getD 30 undef,(Array.mk a).getD 31 undef,(Array.mk a).getD 32 undef,(Array.mk a).getD 33 undef,(Array.mk a).getD 34 undef,(Array.mk a).getD 35 undef,(Array.mk a).getD 36 undef,(Array.mk a).getD 37 undef,(Array.mk a).getD 38 undef,(Array.mk a).getD 39 undef,(Array.mk a).getD 40 undef,(Array.mk a).getD 41 undef,(Array.mk a).getD 42 undef,(Array.mk a).getD 43 undef,(Array.mk a).getD 44 undef,(Array.mk a).getD 45 undef,(Array.mk a).getD 46 undef,(Array.mk a).getD 47 undef,(Array.mk a).getD 48 undef,(Array.mk a).getD 49 undef,(Array.mk a).getD 50 undef,(Array.mk a).getD 51 undef,(Array.mk a).getD 52 undef,(Array.mk a).getD 53 undef,(Array.mk a).getD 54 undef,(Array.mk a).getD 55 undef,(Array.mk a).getD 56 undef,(Array.mk a).getD 57 undef,(Array.mk a).getD 58 undef,(Array.mk a).getD 59 undef,(Array.mk a).getD 60 undef,(Array.mk a).getD 61 undef,(Array.mk a).getD 62 undef,(Array.mk a).getD 63 undef,(Array.mk a).getD 64 undef,(Array.mk a).getD 65 undef,(Array.mk a).getD 66 undef,(Array.mk a).getD 67 undef,(Array.mk a).getD 68 undef,(Array.mk a).getD 69 undef,(Array.mk a).getD 70 undef,(Array.mk a).getD 71 undef,(Array.mk a).getD 72 undef]:=rfl;rw[d] at c;exact Bu List.toArray c
theorem fP {a:Act} {d:List Nat} {A:Option Addr} {n c:Nat} {u:BB} {b f g h m i e:Nat} (l:a.defers=marks d) (o:a.tmps.size=73) (k:JT a.tmps A n c u b f g h m i e) :
  ∃ y:Nat->Value,a = {tmps:=#[.slice A n c,.string u,zI (b:Int),undef,undef,zP f,zP g,zP h,zP m,zP i,zP e,y 11,y 12,y 13,y 14,y 15,y 16,y 17,y 18,y 19,y 20,y 21,y 22,y 23,y 24,y 25,y 26,y 27,y 28,y 29,y 30,y 31,y 32,y 33,y 34,y 35,y 36,y 37,y 38,y 39,y 40,y 41,y 42,y 43,y 44,y 45,y 46,y 47,y 48,y 49,y 50,y 51,y 52,y 53,y 54,y 55,y 56,y 57,y 58,y 59,y 60,y 61,y 62,y 63,y 64,y 65,y 66,y 67,y 68,y 69,y 70,y 71,y 72],defers:=marks d}:=by
 obtain⟨p,G⟩:=a;dsimp only at l o k;obtain⟨q,r,t,v,w,x,z,B,C,D,s⟩:=k;refine⟨fun E=>p.getD E undef,?_⟩;have j:=kP p o;rw[q,r,t,v,w,x,z,B,C,D,s] at j;rw[l];exact Bu (fun F=>({tmps:=F,defers:=marks d}:Act)) j
def JB (t:Array Value) (A:Option Addr) (n c:Nat) (u:BB) (b e f g m h d a:Nat) (s:BB):Prop:=JT t A n c u b e f g m h d/\t.getD 11 undef=zP a/\t.getD 12 undef= .string s
theorem fO {a:Act} {A:Option Addr} {n c:Nat} {u s:BB} {b f g h m i e d:Nat} (k:JB a.tmps A n c u b f g h m i e d s) (o:a.tmps.size=73) (l:a.defers=[]) :
  ∃ z:Nat->Value,a = {tmps:=#[.slice A n c,.string u,zI (b:Int),undef,undef,zP f,zP g,zP h,zP m,zP i,zP e,zP d,.string s,z 13,z 14,z 15,z 16,z 17,z 18,z 19,z 20,z 21,z 22,z 23,z 24,z 25,z 26,z 27,z 28,z 29,z 30,z 31,z 32,z 33,z 34,z 35,z 36,z 37,z 38,z 39,z 40,z 41,z 42,z 43,z 44,z 45,z 46,z 47,z 48,z 49,z 50,z 51,z 52,z 53,z 54,z 55,z 56,z 57,z 58,z 59,z 60,z 61,z 62,z 63,z 64,z 65,z 66,z 67,z 68,z 69,z 70,z 71,z 72],defers:=[]}:=by
 obtain⟨p,J⟩:=a;dsimp only at l o k;obtain⟨⟨q,r,x,y,B,C,D,E,F,G,t⟩,v,w⟩:=k;refine⟨fun H=>p.getD H undef,?_⟩;have j:=kP p o;rw[q,r,x,y,B,C,D,E,F,G,t,v,w] at j;rw[l];exact Bu (fun I=>({tmps:=I,defers:=[]}:Act)) j
def kM (Q:Exit->Act->Bc->Prop) (e:Exit) (a:Act) (w:Bc):Prop:=match e with
 |.normal=>Q .normal a w
 |_=>False
theorem j5 {P:Program} {c:Code} {Q:Exit->Act->Bc->Prop} {b:Act} {w:Bc} (a:c.wp P (kM Q) b w):c.wp P Q b w :=
 wp_mono a fun d b w a=>by
  cases d
  case normal=>exact a
  all_goals exact a.elim
theorem YE (m:Nat) (A:Option Addr) (n c:Nat) (v:BB) (w:Bc) :
  Calls Tryz.prog 299 #[zP m,.slice A n c,.string v] w (Rt (.func (.func 301) #[] #[zP w.heap.size,.pointer (some (zA (w.heap.size+1+1) 0)),.pointer (some (zA (w.heap.size+1) 0))]) fun w'=>AX w' w.heap.size 437 #[zP m]/\AX w' (w.heap.size+1) 334 #[.slice A n c]/\AX w' (w.heap.size+1+1) 27 #[.string v]/\Au w w'):=by
 go_in;go_wp2;go_ret;exact⟨rfl,((AX.new w _ _).alloc _).alloc _,(AX.at_ _ _ (by simp)).alloc _,AX.at_ _ _ (by simp),(((Aa _ w).alloc _).alloc _).alloc _⟩
def oO (w:Bc) (R:List Dj) (u:BB) (b:Nat) (e:Ending) (w':Bc):Prop :=
 ((∃ d c a i h g f,e= .returned (.tuple #[zP d,zO])/\EC w' c d a i h g f/\Le R u a/\a.length<=b/\w.heap.size<=c)∨(e= .returned (.tuple #[.pointer none,zI 12])/\JK R u b))/\Au w w'
theorem UR (A:Option Addr) (c b:Nat) (w:Bc) (ap:R.length<=400) (eq:∀ r∈R,r.BX.size<=16/\r.Kn.size<=16) (dj:CX u=true) (ge:1<=b) (gh:b<=5000) (ai:Ay FH w w.heap.size 2 A R) :
  Calls Tryz.prog 293 #[.slice A R.length c,.string u,zI (b:Int)] w (oO w R u b):=by
 have gw:u.size<=16:=ET dj;have ex:=Lh fun W=>Jk u W (by omega)
 rw[dj] at ex;have ey:=Lh fun W (ca:Au w W)=>TZ A c R W ap eq (ai.AB ca)
 obtain⟨Y,eo⟩:∃ Y,Y=R.length:=⟨_,rfl⟩
 have hu:=Lh eo;rw[<- eo] at ey ⊢;have ii:decide ((b:Int)<1)=false:=by rw[Ag];omega
 have ij:decide ((5000:Int)<(b:Int))=false:=by rw[Ag];omega
 have ik:decide ((400:Int)<(Y:Int))=false:=by rw[Ag];omega
 have ho:=Lh ap;have ia:=Lh eq;have ib:=Lh dj;have ic:=Lh gw;have hy:=Lh ai;have hf:=Lh ge;have dn:=Lh gh;have gn:=@run_makeMap Tryz.prog;have D:=Lh ((((T0 w).alloc (.cells #[zI (b:Int)] 3)).alloc (.cells #[.pointer none] 427)).alloc (.cells #[zO] 32));clear ap eq dj gw ai eo ge gh;refine callsIn_wide.1 (callsIn_of_wp_marks (n:=3) Tryz.func293 rfl trivial ?_);simp only[Tryz.ntmps293,EJ,BF,CV,Nat.reduceAdd,Nat.reduceSub,Array.replicate_succ,Array.replicate_zero,List.push_toArray,List.append_toArray,BU,Df];refine wpIn_wide.2 ?_;go_upto_region 1 with(fail)
 have Q:Hid (AX (((w.alloc (.cells #[zI (b:Int)] 3)).alloc (.cells #[.pointer none] 427)).alloc (.cells #[zO] 32)) w.heap.size 3 #[zI (b:Int)]):=Lh (((AX.new w _ _).alloc _).alloc _);have Z:Hid (AX (((w.alloc (.cells #[zI (b:Int)] 3)).alloc (.cells #[.pointer none] 427)).alloc (.cells #[zO] 32)) (w.heap.size+1) 427 #[.pointer none]):=Lh ((AX.at_ _ _ (by simp)).alloc _);have aa:Hid (AX (((w.alloc (.cells #[zI (b:Int)] 3)).alloc (.cells #[.pointer none] 427)).alloc (.cells #[zO] 32)) (w.heap.size+1+1) 32 #[zO]):=Lh (AX.at_ _ _ (by simp));generalize ((w.alloc (.cells #[zI (b:Int)] 3)).alloc (.cells #[.pointer none] 427)).alloc (.cells #[zO] 32)=hd at D Q Z aa ⊢;obtain⟨bb,de⟩:∃ l,l=w.heap.size:=⟨_,rfl⟩
 obtain⟨n,df⟩:∃ l,l=w.heap.size+1:=⟨_,rfl⟩
 obtain⟨jx,dg⟩:∃ l,l=w.heap.size+1+1:=⟨_,rfl⟩
 rw[<- de] at Q;rw[<- dg,<- df,<- de];rw[<- df] at Z;rw[<- dg] at aa;have jh:=Lh de;have cp:=Lh df;have cq:=Lh dg;clear de df dg;have bd:Cl hd bb 0 (zI (b:Int)):=Q.out.cell 0;go_upto_region 8 with(first
  |(go_at_call 103;refine(ex.out _).mono ?_;rintro h hc ⟨rfl,q,hq⟩;have j:Au hd hc:=(by subst hq;exact(Aa _ _).drewN q);clear hq;replace D:=Lh (D.out.to j);replace Q:=Lh (Q.out.Ab j id);replace Z:=Lh (Z.out.Ab j id);replace aa:=Lh (aa.out.Ab j id);clear j bd;have bd:Cl hc bb 0 (zI (b:Int)):=Q.out.cell 0)
  |(go_at_call 297;refine(ey.out _ D.out).mono ?_;rintro h e ⟨m,jr,rfl,ga,iw,j⟩;replace D:=Lh (D.out.to j);replace Q:=Lh (Q.out.Ab j id);replace Z:=Lh (Z.out.Ab j id);replace aa:=Lh (aa.out.Ab j id);have hr:=Lh ga;clear j ga iw bd))
 clear ii ij ik;go_upto_region 9 with(fail)
 have ix:=gn;clear gn ix;have cz:Hid (Au e (((e.alloc (.map #[] 0)).alloc (.cells #[zN,zN,.map (some e.heap.size)] 433)).alloc (.cells #[.pointer (some (zA (e.heap.size+1) 0))] 427))):=Lh ((((Aa _ e).alloc _).alloc _).alloc _);have O:Hid (AX (((e.alloc (.map #[] 0)).alloc (.cells #[zN,zN,.map (some e.heap.size)] 433)).alloc (.cells #[.pointer (some (zA (e.heap.size+1) 0))] 427)) (e.heap.size+1+1) 427 #[.pointer (some (zA (e.heap.size+1) 0))]):=Lh (AX.at_ _ _ (by simp));have N:Hid (EC (((e.alloc (.map #[] 0)).alloc (.cells #[zN,zN,.map (some e.heap.size)] 433)).alloc (.cells #[.pointer (some (zA (e.heap.size+1) 0))] 427)) e.heap.size (e.heap.size+1) [] (zN) (zN) e.heap.size fun _=>none) :=
  Lh ⟨by omega,(AX.at_ _ _ (by simp)).alloc _,World.ownsRow_nil _ _ _ _,⟨[],World.ownsRow_nil _ _ _ _⟩,AY _,((GI.new e).AB ((Aa _ _).alloc _)).AB ((Aa _ _).alloc _),fun H=>by simp⟩
 generalize ((e.alloc (.map #[] 0)).alloc (.cells #[zN,zN,.map (some e.heap.size)] 433)).alloc (.cells #[.pointer (some (zA (e.heap.size+1) 0))] 427)=he at cz O N ⊢;obtain⟨kc,ci⟩:∃ l,l=e.heap.size:=⟨_,rfl⟩
 obtain⟨r,ai⟩:∃ l,l=e.heap.size+1:=⟨_,rfl⟩
 obtain⟨ka,ei⟩:∃ l,l=e.heap.size+1+1:=⟨_,rfl⟩
 rw[<- ei,<- ai] at O;rw[<- ai,<- ci] at N;rw[<- ei,<- ai,<- ci];have cx:Hid (EC he e.heap.size r [] (zN) (zN) kc fun _=>none):=Lh (by have:=N.out;rw[ci] at this ⊢;exact this);clear N ai ei;have ji:=Lh ci;clear ci;have kd:Cl he ka 0 (zP r):=O.out.cell 0;go_upto_region 10 with(go_at_call 298;refine(Qr u _ _ _ _ cx.out cz.out.size (by simp) (by have:=ic.out;omega)).mono ?_;rintro h wc ⟨rfl,M,L,f,gb,_,_,G⟩;have N:=Lh gb;have br:Hid (Au e wc):=Lh (cz.out.AJ G fun jv j ju=>by have:=cx.out.MZ ju;omega);replace O:=Lh (O.out.Ab G (cx.out.Ky O.out ⟨by decide,by decide,by decide⟩));clear gb G kd)
 have gs:KG [] u=[u]:=rfl;rw[gs] at N;go_wp2_with fail;have dd:Au wc (wc.alloc (.cells #[zO] 3)):=(Aa _ wc).alloc _;have cy:Hid (AX (wc.alloc (.cells #[zO] 3)) wc.heap.size 3 #[zO]):=Lh (AX.new wc _ _);replace O:=Lh (O.out.Ab dd id);replace N:=Lh (N.out.AB dd);replace br:=Lh (br.out.to dd);obtain⟨v,gg⟩:∃ l,l=wc.heap.size:=⟨_,rfl⟩
 generalize wc.alloc (.cells #[zO] 3)=jg at O cy N br ⊢;rw[<- gg] at cy ⊢;clear gs dd gg;have k:Hid (Ve e jg ka v r kc 0 M L f [u] []):=Lh ⟨br.out,O.out,cy.out,N.out,fun _ ju=>(by cases ju),List.nodup_nil,fun _ ju=>(by cases ju)⟩;have I:Hid (kJ R u b 0 [u]):=Lh ⟨by simp,by simp,fun H cl=>by rw[Ai.1 cl];exact Fv.refl,by have:=hf.out;simp;omega,fun q H ju=>by omega⟩;refine wp_loop_ghost_k (JW e ka r kc b Y c A u R bb n jx m) (b+1) ⟨0,v,M,L,f,[u],[],by omega,k.out,I.out,rfl,rfl,⟨rfl,rfl,rfl,rfl,rfl,rfl,rfl,rfl,rfl,rfl,rfl⟩⟩ ?_;clear k I O cy N br cz cx;rintro gk a W ⟨jw,v,M,L,f,P,B,gi,bg,fz,cc,gu,gv⟩ J K ee ca;replace ee:=Lh ee;obtain⟨y,ha⟩:=fP cc gu gv;clear cc gu gv;subst ha;have k:=Lh bg;have I:=Lh fz;have hk:=Lh gi;obtain⟨X,ap⟩:∃ X,X=P.length:=⟨_,rfl⟩
 have bn:=Lh ap;obtain⟨dm,eb,er⟩:=BD bg.row.ws;rw[<- ap] at er;have dx:=Lh er;clear ap er fz gi;have ad:Cl W v 0 (zI (jw:Int)):=bg.SK.cell 0;have kd:Cl W ka 0 (zP r):=bg.x9.cell 0;have ae:Cl W r 0 (.slice dm X eb):=by rw[<- dx.out];exact bg.row.BR.cell 0
 clear bg;by_cases jq:jw<X
 ·have jb:(jw:Int)<(X:Int):=by omega
  go_upto_region 13 with(fail)
  go_quiet (fail);go_wp2_with fail;replace k:=Lh (k.out.AB ((Aa _ W).drewN nq));generalize W.drewN nq=jz at k ⊢;clear kd ad ae;have ad:Cl jz v 0 (zI (jw:Int)):=k.out.SK.cell 0;have kd:Cl jz ka 0 (zP r):=k.out.x9.cell 0;have ae:Cl jz r 0 (.slice dm X eb):=by rw[<- dx.out];exact k.out.row.BR.cell 0
  have en:jw<P.length:=by have:=bn.out;omega
  obtain⟨H,cl⟩:∃ H,H=P[jw]:=⟨_,rfl⟩
  have dv:Hid (P[jw]?= some H):=Lh (by rw[cl];exact Ah en);have gc:Ay Value.string jz jz.heap.size 1 dm P:=Ay.Ea (V:=Value.string) (fun _=>rfl) (by have:=k.out.row.ws;rw[dx.out,bn.out] at this;exact this);obtain⟨db,eu,rfl,gj,em⟩:=Ay.BV (V:=Value.string) (fun _=>rfl) gc en;rw[<- cl] at em;clear cl gc en;refine j5 ?_;refine GZ (fun g=>Cl g ka 0 (zP r)/\Cl g r 0 (zS db eu X eb)/\Cl g v 0 (zI (jw:Int))/\Cl g db (eu+jw) (.string H)) ⟨kd,ae,ad,em⟩ fun ke=>?_
  have ay:=Lh ke;replace k:=Lh (k.out.AB (Aa _ jz).drew);have dq:Hid (db<jz.drew.heap.size):=Lh gj;have bo:Hid (ka<jz.drew.heap.size/\r<jz.drew.heap.size/\v<jz.drew.heap.size):=Lh ⟨k.out.x9.lt,k.out.row.BR.lt,k.out.SK.lt⟩;clear kd ae ad em gj;generalize jz.drew=fp at k ay dq bo ke ⊢;refine hq 0 46 ke ?_;refine hq 1 47 ke ?_;refine hq 2 48 ke ?_;refine hq 3 49 ke ?_;refine hq 4 50 ke ?_;refine hq 5 51 ke ?_;refine hq 6 52 ke ?_;refine hq 7 53 ke ?_;refine hq 8 54 ke ?_;refine Gg 9 fun K ca=>?_
  go_simp;refine(YE m _ Y c H fp).mono ?_;rintro h U ⟨rfl,bt,bu,bv,j⟩;have fe:=Lh bt;have dr:=Lh bu;have cw:=Lh bv;have az:=Lh (k.out.AB j);have ct:=Lh j;have jj:=Lh j.size;clear bt bu bv j;go_wp2;refine ca.out _ _ ⟨(ct.out.cell (p:=zA ka 0) bo.out.1 id).trans ay.out.1,(ct.out.cell (p:=zA r 0) bo.out.2.1 id).trans ay.out.2.1,(ct.out.cell (p:=zA v 0) bo.out.2.2 id).trans ay.out.2.2.1,(ct.out.cell (p:=zA db (eu+jw)) dq.out id).trans ay.out.2.2.2⟩ fun ke=>?_
  clear ca K;refine zw ?_;dsimp only[kM];obtain⟨bs,ej⟩:∃ l,l=fp.heap.size:=⟨_,rfl⟩
  rw[<- ej] at fe dr cw ⊢;obtain⟨bc,ek⟩:∃ l,l=bs+1:=⟨_,rfl⟩
  rw[<- ek] at dr cw ⊢;obtain⟨dy,el⟩:∃ l,l=bc+1:=⟨_,rfl⟩
  rw[<- el] at cw ⊢;have dp:Hid (∀ jv,SV r kc M L jv->jv<bs):=Lh fun jv j=>by rw[ej];exact k.out.row.iA j
  have hi:Hid (∀ jv,SV r kc M L jv->e.heap.size<=jv):=Lh fun jv j=>k.out.row.MZ j
  have cr:Hid (∀ i∈B,i<U.heap.size):=Lh fun i p=>Et (az.out.ds i p)
  have ez:Hid (bc=bs+1/\dy=bc+1):=Lh ⟨ek,el⟩;have ff:Hid (CX H=true):=Lh ((I.out.re H (Bn dv.out)).may ib.out);have hz:Hid (Fv R u H):=Lh (I.out.re H (Bn dv.out));have bm:Hid (Au e U):=Lh az.out.k1;clear ej ek el ke ay dq bo;go_wp2_with fail;have gm:#[Value.slice A Y c]=#[Value.slice A R.length c]:=by rw[hu.out]
  have hs:AX U bc 334 #[.slice A R.length c]:=by rw[<- gm];exact dr.out
  have ir:Ay FH e e.heap.size 2 A R:=hy.out.AB D.out;have gr:kc<U.heap.size:=az.out.row.mp.lt;have ds:=Lh gr;clear gm gr;refine(wpIn_wide (n:=3)).1 ?_;refine wpIn_rangeFunc_ownH (n:=3) (F:=Fence.wide) rfl (by decide) (gf:=301) (lb:=#[zP bs,zP dy,zP bc]) rfl trivial (enters_of Tryz.func301 (by kernel_rfl) rfl)
   (Sz (u:=H) e U bs dy bc A c (SV r kc M L) hr.out ir ho.out ia.out ff.out bm.out hi.out fe.out cw.out hs (fun ju=>by have:=dp.out _ ju;omega) (fun ju=>by have:=dp.out _ ju;have:=ez.out;omega) fun ju=>by have:=dp.out _ ju;have:=ez.out;omega)
   WL.trans (fun g X o jc bt bu bv _=>WL.put _ _ g X o jc bt bu bv) (Below.refl _ _) (fun _=>rfl)
   (IA e ka v r kc jw U.heap.size b M L P B u) (q9 e n jx b B u)
   (lV bm.out.size ds.out cr.out) (fun ih=>iI bm.out.size cr.out)
   ⟨M,L,f,P,az.out,fun jv j=>.inl j,List.prefix_refl _,I.out.nd,I.out.re,I.out.le,fun l hx=>(by cases hx),AY _⟩
   (q8 fun co s a=>JB a.tmps A Y c u b bb n jx m ka v co s/\a.tmps.size=73/\a.defers=[]) (fun l ig=>gM) ?assign ?body ?done ?stop
  case assign =>
   rintro es ev ⟨⟨⟨gx,gy⟩,kf⟩,hx⟩ g jl ip iq;simp only[lS]
   gi_wp2
   refine iq _ _ ((KeepsOthers.alloc _ _).from _) ((Aa _ g).alloc _) (ip.AB ((Aa _ g).alloc _)) ⟨g.heap.size,AX.new g _ _,⟨⟨rfl,rfl,rfl,rfl,rfl,rfl,rfl,rfl,rfl,rfl,rfl⟩,rfl,rfl⟩,rfl,rfl⟩
  case body =>
   rintro es ev l ig g iu iy ⟨hb,gz,fu,ac,ag,fx,cj,ch,ck,cg,cf,di⟩ ⟨co,dc,ef,gt,cc⟩ iv;obtain⟨gx,gp⟩:∃ kb,kb=l.1.1.1:=⟨_,rfl⟩
   obtain⟨gy,gq⟩:∃ kb,kb=l.1.1.2:=⟨_,rfl⟩
   obtain⟨kf,dk⟩:∃ kb,kb=l.1.2:=⟨_,rfl⟩
   rw[<- gp,<- gq] at dc;rw[<- dk] at ef;obtain⟨z,rfl⟩:=fO ef gt cc;dsimp only;have ie:=Lh dk;have d:=Lh ag;have ax:=Lh fx;have hw:=Lh cj;have fg:=Lh ch;have fi:=Lh ck;have fd:=Lh cg;have hm:=Lh cf;have fn:Hid (J5 R H kf):=Lh (by rw[dk];exact l.2);have fk:Hid (kf.size<=16):=Lh (ET (fn.out.may ff.out));have du:=Lh di;have kd:Cl g ka 0 (zP r):=ag.x9.cell 0;have ad:Cl g v 0 (zI (jw:Int)):=ag.SK.cell 0;have fr:Cl g co 0 (zI gx):=dc.cell 0;have fs:Cl g co 1 (zI gy):=dc.cell 1;clear dc ag fx cj ch ck cg cf di ef gt cc iu iy iv gp gq dk;have fh:Hid (Fv R u kf):=Lh (hz.out.step fn.out);obtain⟨av,gl⟩:∃ av,av=(KG ac kf).length:=⟨_,rfl⟩
   have cv:=Lh gl;clear gl;by_cases go:b<av
   ·have il:decide ((b:Int)<(av:Int))=true:=by rw[Bb];omega
    gi_wp2_with (refine⟨trivial,?_⟩;gi_at_call 298;refine(CallsIn.inRound es (callsIn_wide.2 (Qr kf _ _ _ g d.out.row (AV d.out.k1.size (AY _)) (by have:=fd.out;have:=dn.out;omega) (by have:=fk.out;omega)))).mono ?_;rintro h jy ⟨rfl,bk,bj,bf,an,cm,cd,C⟩;have bq:=Lh an;have fl:=Lh cm;have fb:=Lh cd;have fj:=Lh C;have cs:=Lh (d.out.row.round C ax.out ds.out);have am:Hid (Ve e jy ka v r kc jw bk bj bf (KG ac kf) B):=Lh ⟨d.out.k1.AJ C fun jv j ju=>by have:=d.out.row.MZ ju;omega,d.out.x9.Ab C (d.out.row.Ky d.out.x9 ⟨by decide,by decide,by decide⟩),d.out.SK.Ab C (d.out.row.Ky d.out.SK ⟨by decide,by decide,by decide⟩),an,fun i p=>(C.block i (Et (d.out.ds i p)) (d.out.row.Lv (d.out.ds i p) rfl fun h=>by have:=d.out.dl i p;obtain⟨q,hq,_⟩:=d.out.row.mp;obtain⟨ft,fq,ah,_⟩:=hq;rw[<- h,d.out.ds i p] at ah;cases ah)).trans (d.out.ds i p),d.out.dn,d.out.dl⟩;clear an cm cd C kd ad fr fs;obtain⟨dl,dz,ar⟩:=BD bq.out.ws;rw[<- cv.out] at ar;have dw:=Lh ar;clear ar;have kd:Cl jy ka 0 (zP r):=am.out.x9.cell 0;have ae:Cl jy r 0 (.slice dl av dz):=(by rw[<- dw.out];exact bq.out.BR.cell 0);have bd:Cl jy bb 0 (zI (b:Int)):=(Q.out.Ab am.out.k1 id).cell 0)
    gi_region
    all_goals
     have ab:Hid (Ve e jy.drew ka v r kc jw bk bj bf (KG ac kf) B):=Lh (am.out.AB (Aa _ jy).drew);have T:=Lh (Z.out.Ab ab.out.k1 id);have aw:=Lh (aa.out.Ab ab.out.k1 id);have bp:Hid (n≠jx):=Lh (by have:=cp.out;have:=cq.out;omega);have hv:Hid (JK R u b):=Lh ⟨_,Qj fg.out,fun y au=>(Ux au).elim (fi.out y) fun h=>by rw[h];exact fh.out,by have:=cv.out;omega⟩;have cu:Hid (KeepsFrom U.heap.size g jy.drew):=Lh (cs.out.1.trans (J8 (S:=fun _=>False) ((Aa _ jy).drew) fun _ _ _ _ _ ju=>ju));clear kd ae bd;generalize jy.drew=ba at ab T aw cu ⊢;have jd:=T.out.cell 0;have im:=T.out.frozen 0;have dt:=Lh (T.out.Dw 0 (.pointer none));have al:=Lh (aw.out.far (p:=zA n 0) (fun h=>bp.out (show jx=n from h).symm) (.pointer none));have je:(ba.setCell (zA n 0) (.pointer none)).cell? (zA jx 0)=some zO:=al.out.cell 0;have io:(ba.setCell (zA n 0) (.pointer none)).frozen? (zA jx 0)=false:=al.out.frozen 0
     gi_wp2
     have G:Am (fun jv=>jv=n∨jv=jx) ba ((ba.setCell (zA n 0) (.pointer none)).setCell (zA jx 0) (zI 12)):=((Aa (fun jv=>jv=n∨jv=jx) ba).setCell (p:=zA n 0) (fun _=>.inl rfl) _).setCell (p:=zA jx 0) (fun _=>.inr rfl) _;have dh:∀ {x:Nat} {o:Obj},ba.heap[x]?= some o->o.isCells=false->¬(x=n∨x=jx):=fun ce aq h=>by
      rcases h with rfl|rfl
      ·have:=T.out;unfold AX at this;rw[ce] at this;cases this;cases aq
      ·have:=aw.out;unfold AX at this;rw[ce] at this;cases this;cases aq
     exact⟨cu.out.trans (J8 G fun jv o _ j aq=>dh j aq),rfl,fun i p=>(G.block i (Et (ab.out.ds i p)) (dh (ab.out.ds i p) rfl)).trans (ab.out.ds i p),dt.out.far (p:=zA jx 0) bp.out _,al.out.Dw 0 (zI 12),hv.out,(ab.out.k1.mono fun _ _ ju=>ju.elim).AJ G fun _ _ ju=>ju⟩
   ·have il:decide ((b:Int)<(av:Int))=false:=by rw[Ag];omega
    gi_wp2_with (refine⟨trivial,?_⟩;gi_at_call 298;refine(CallsIn.inRound es (callsIn_wide.2 (Qr kf _ _ _ g d.out.row (AV d.out.k1.size (AY _)) (by have:=fd.out;have:=dn.out;omega) (by have:=fk.out;omega)))).mono ?_;rintro h jy ⟨rfl,bk,bj,bf,an,cm,cd,C⟩;have bq:=Lh an;have fl:=Lh cm;have fb:=Lh cd;have fj:=Lh C;have cs:=Lh (d.out.row.round C ax.out ds.out);have am:Hid (Ve e jy ka v r kc jw bk bj bf (KG ac kf) B):=Lh ⟨d.out.k1.AJ C fun jv j ju=>by have:=d.out.row.MZ ju;omega,d.out.x9.Ab C (d.out.row.Ky d.out.x9 ⟨by decide,by decide,by decide⟩),d.out.SK.Ab C (d.out.row.Ky d.out.SK ⟨by decide,by decide,by decide⟩),an,fun i p=>(C.block i (Et (d.out.ds i p)) (d.out.row.Lv (d.out.ds i p) rfl fun h=>by have:=d.out.dl i p;obtain⟨q,hq,_⟩:=d.out.row.mp;obtain⟨ft,fq,ah,_⟩:=hq;rw[<- h,d.out.ds i p] at ah;cases ah)).trans (d.out.ds i p),d.out.dn,d.out.dl⟩;clear an cm cd C kd ad fr fs;obtain⟨dl,dz,ar⟩:=BD bq.out.ws;rw[<- cv.out] at ar;have dw:=Lh ar;clear ar;have kd:Cl jy ka 0 (zP r):=am.out.x9.cell 0;have ae:Cl jy r 0 (.slice dl av dz):=(by rw[<- dw.out];exact bq.out.BR.cell 0);have bd:Cl jy bb 0 (zI (b:Int)):=(Q.out.Ab am.out.k1 id).cell 0)
    gi_region
    all_goals
     have ab:Hid (Ve e jy.drew ka v r kc jw bk bj bf (KG ac kf) B):=Lh (am.out.AB (Aa _ jy).drew);have hl:Hid (IA e ka v r kc jw U.heap.size b M L P B u (ev++[l]) jy.drew):=Lh ⟨bk,bj,bf,KG ac kf,ab.out,fun jv j=>by
       rcases j with ju|ju|ju|ju
       ·exact ax.out jv (.inl ju)
       ·exact ax.out jv (.inr (.inl ju))
       ·rcases fl.out jv ju with ju|ju
        ·exact ax.out jv (.inr (.inr (.inl ju)))
        ·exact .inr (AV du.out ju)
       ·rcases fb.out jv ju with ju|ju
        ·exact ax.out jv (.inr (.inr (.inr ju)))
        ·exact .inr (AV du.out ju),hw.out.trans Uw,Qj fg.out,fun y au=>(Ux au).elim (fi.out y) fun h=>by rw[h];exact fh.out,by have:=cv.out;omega,fun y au=>by
       rcases Bd.1 au with ju|ju
       ·exact Uw.subset (hm.out y ju)
       ·rw[Ai.1 ju,<- ie.out];exact cZ,by have:=du.out;have:=fj.out.size;show _<=jy.heap.size;omega⟩
     have cu:Hid (KeepsFrom U.heap.size g jy.drew):=Lh (cs.out.1.trans (J8 (S:=fun _=>False) ((Aa _ jy).drew) fun _ _ _ _ _ ju=>ju));have hn:Hid (WL U.heap.size (SV r kc M L) g jy.drew):=Lh (cs.out.2.trans ((Aa _ jy).drew))
     gi_wp2
     exact⟨cu.out,hn.out,hl.out⟩
  case done =>
   rintro i js g p gd ⟨hb,gz,fu,ac,ag,_,cj,ch,ck,cg,cf,di⟩ bx;have d:=Lh ag;have fa:=Lh bx;have hp:Hid (kJ R u b (jw+1) ac):=Lh (I.out.next cj dv.out ch ck cg fun y au=>by
    obtain⟨l,iz,ja⟩:=gd y au;rw[<- ja];exact cf l iz)
   have hh:Hid (i∉B):=Lh fun ju=>by have:=cr.out i ju;omega
   have hg:Hid (e.heap.size<=i):=Lh (by have:=bm.out.size;omega);have jp:(jw:Int)<=5000:=by have:=I.out.le;have:=dn.out;have:=bn.out;omega
   have ad:Cl g v 0 (zI (jw:Int)):=ag.SK.cell 0;have fc:Hid (gk-1<gk/\jw+1+(gk-1)=b+1):=Lh (by have:=hk.out;have:=I.out.le;have:=bn.out;omega);have fm:Hid (AX (g.alloc (.cells #[zI (jw:Int)] 3)) g.heap.size 3 #[zI (jw:Int)]):=Lh (AX.new g _ _);have jm:=fm.out.cell 0;have jn:=fm.out.frozen 0;clear ag cj ch ck cg cf di bx gd p;go_wp2_with fail;have fy:Au g (g.alloc (.cells #[zI ((jw:Int)+1)] 3)):=(T0 g).alloc _;have bh:=d.out.AB fy;refine Handed.intro (gk-1) fc.out.1 (ee.out _ _ _ ⟨jw+1,g.heap.size,hb,gz,fu,ac,i::B,fc.out.2,⟨bh.k1,bh.x9,?_,bh.row,fun E bz=>?_,Gj.2 ⟨hh.out,bh.dn⟩,fun E bz=>?_⟩,hp.out,rfl,rfl,⟨rfl,rfl,rfl,rfl,rfl,rfl,rfl,rfl,rfl,rfl,rfl⟩⟩)
   ·rw[show((jw+1:Nat):Int)=(jw:Int)+1 by omega];exact AX.new g _ _
   ·rcases BI.1 bz with rfl|ju
    ·exact(fy.block _ (Et fa.out) id).trans fa.out
    ·exact bh.ds E ju
   ·rcases BI.1 bz with rfl|ju
    ·exact hg.out
    ·exact bh.dl E ju
  case stop =>
   rintro i ih ev g p _ ⟨rfl,ao,fv,fw,go,G⟩ bx
   gi_wp2
   refine KT (i::B) g (Gj.2 ⟨fun ju=>by have:=cr.out i ju;omega,az.out.dn⟩) (fun E bz=>by
    rcases BI.1 bz with rfl|ju
    ·exact bx
    ·exact ao E ju) fun W' af=>?_
   have cb:∀ {x:Nat} {t:TypeId} {ea:Array Value},AX g x t ea->¬x∈i::B:=fun {x} _ _ bw bi=>by
    have:g.heap[x]?= some (Obj.deferred (some [])):=by
     rcases BI.1 bi with rfl|ju
     ·exact bx
     ·exact ao _ ju
    unfold AX at bw;rw[bw] at this;cases this
   have ec:Cl W' n 0 (.pointer none):=(fv.Ab af (cb fv)).cell 0;have ed:Cl W' jx 0 (zI 12):=(fw.Ab af (cb fw)).cell 0;refine⟨.tuple #[.pointer none,zI 12],by simp[results,Tryz.results293,go_sem,ec,ed],.inr ⟨rfl,go⟩,(D.out.AJ G fun jv j h=>?_).AJ af fun jv j h=>?_⟩
   ·rcases h with h|h
    ·have:=cp.out;omega
    ·have:=cq.out;omega
   ·rcases BI.1 h with ju|ju
    ·have:=bm.out.size;have:=D.out.size;omega
    ·have:=az.out.dl jv ju;have:=D.out.size;omega
 ·have jb:¬(jw:Int)<(X:Int):=by omega
  have hj:Hid (Le R u P):=Lh (I.out.full (by have:=bn.out;omega));go_wp2_with fail;go_quiet (fail);replace k:=Lh (k.out.AB ((Aa _ W).drewN nq));generalize W.drewN nq=jz at k ⊢;clear kd ad ae;have kd:Cl jz ka 0 (zP r):=k.out.x9.cell 0;have T:=Lh (Z.out.Ab k.out.k1 id);have aw:=Lh (aa.out.Ab k.out.k1 id);have bp:Hid (n≠jx):=Lh (by have:=cp.out;have:=cq.out;omega);have jd:=T.out.cell 0;have im:=T.out.frozen 0;have dt:=Lh (T.out.Dw 0 (zP r));have al:=Lh (aw.out.far (p:=zA n 0) (fun h=>bp.out (show jx=n from h).symm) (zP r));have je:(jz.setCell (zA n 0) (zP r)).cell? (zA jx 0)=some zO:=al.out.cell 0;have io:(jz.setCell (zA n 0) (zP r)).frozen? (zA jx 0)=false:=al.out.frozen 0;go_wp2_with fail;have eg:=dt.out.far (p:=zA jx 0) bp.out zO;have eh:=al.out.Dw 0 zO;have G:Am (fun jv=>jv=n∨jv=jx) jz ((jz.setCell (zA n 0) (zP r)).setCell (zA jx 0) zO):=((Aa (fun jv=>jv=n∨jv=jx) jz).setCell (p:=zA n 0) (fun _=>.inl rfl) _).setCell (p:=zA jx 0) (fun _=>.inr rfl) _;generalize (jz.setCell (zA n 0) (zP r)).setCell (zA jx 0) zO=g at eg eh G ⊢;have dh:∀ {x:Nat} {o:Obj},jz.heap[x]?= some o->o.isCells=false->¬(x=n∨x=jx):=fun ce aq h=>by
   rcases h with rfl|rfl
   ·have:=T.out;unfold AX at this;rw[ce] at this;cases this;cases aq
   ·have:=aw.out;unfold AX at this;rw[ce] at this;cases this;cases aq
  have ao:∀ i∈B,g.heap[i]?= some (.deferred (some [])):=fun i p=>(G.block i (Et (k.out.ds i p)) (dh (k.out.ds i p) rfl)).trans (k.out.ds i p)
  have ep:EC g e.heap.size r P M L kc f:=k.out.row.Ab G fun jv j h=>by
   have bt:=k.out.row.MZ j;have bu:=D.out.size;have bv:=Z.out.lt;have jo:=aa.out.lt;rcases h with h|h<;>omega
  refine KT B g k.out.dn ao fun W' af=>?_
  have cb:∀ {x:Nat} {t:TypeId} {ea:Array Value},AX g x t ea->¬x∈B:=fun {x} _ _ bw bi=>by
   have:=ao x bi;unfold AX at bw;rw[bw] at this;cases this
  have ec:Cl W' n 0 (zP r):=(eg.Ab af (cb eg)).cell 0;have ed:Cl W' jx 0 zO:=(eh.Ab af (cb eh)).cell 0;refine⟨.tuple #[zP r,zO],by simp[results,Tryz.results293,go_sem,ec,ed],.inl ⟨r,e.heap.size,P,M,L,kc,f,rfl,ep.Ab af fun jv j bi=>ep.Lv (ao jv bi) rfl (fun h=>?_) j,hj.out,I.out.le,D.out.size⟩,((D.out.to k.out.k1).AJ G fun jv j h=>?_).AJ af fun jv j h=>?_⟩
  ·obtain⟨q,hq,_⟩:=ep.mp;obtain⟨ft,fq,ah,_⟩:=hq;rw[<- h,ao jv bi] at ah;cases ah
  ·rcases h with h|h
   ·have:=cp.out;omega
   ·have:=cq.out;omega
  ·have:=k.out.dl jv h;have:=D.out.size;omega
end
end
section
variable {w W W':Bc} {R:List Dj} {u:BB}
def qC (w:Bc) (R:List Dj) (u:BB) (b:Nat) (e:Ending) (w':Bc):Prop :=
 ((∃ d a f c,e= .returned (.tuple #[.slice d a f,zO])/\w'.ownsRow w.heap.size 27 1 (.slice d a f) a (c.map Value.string)/\c.length=a/\Le R u c/\a<=b)∨(e= .returned (.tuple #[zN,zI 12])/\JK R u b))/\Au w w'
theorem gG (A:Option Addr) (c b:Nat) (w:Bc) (a:R.length<=400) (v:∀ r∈R,r.BX.size<=16/\r.Kn.size<=16) (x:CX u=true) (q:1<=b) (s:b<=5000) (t:Ay FH w w.heap.size 2 A R) :
  Calls Tryz.prog 288 #[.slice A R.length c,.string u,zI (b:Int)] w (qC w R u b):=by
 have k:=Lh (UR (u:=u) A c b w a v x q s t);generalize R.length=K at k ⊢;clear a v x q s t;go_in;go_wp2_with fail;refine k.out.mono ?_;rintro I F ⟨⟨r,G,l,N,M,L,J,rfl,e,hF,o,n⟩|⟨rfl,p⟩,d⟩
 ·have h:=Lh d;have z:=Lh hF;have D:=Lh e;have y:=Lh n;have B:=Lh o;obtain⟨j,m,f⟩:=BD e.ws;obtain⟨g,a⟩:∃ g,g=l.length:=⟨_,rfl⟩
  rw[<- a] at f;have i:=Lh a;have E:=Lh f;have H:Cl F r 0 (.slice j g m):=by rw[<- f];exact e.BR.cell 0
  clear d hF e n o f a;go_wp2;go_ret2;exact⟨.inl ⟨j,g,m,l,rfl,Du (by have:=D.out.ws;rw[E.out,<- i.out] at this;exact this) y.out,i.out.symm,z.out,by rw[i.out];exact B.out⟩,h.out⟩
 ·have h:=Lh d;have C:=Lh p;clear d p;go_wp2;go_ret2;exact⟨.inr ⟨rfl,C.out⟩,h.out⟩
end

section
variable {w W W':Bc} {R:List Dj} {L:List BB} {u v s:BB}
theorem QU {p:Nat->Bool}:∀ (n i:Nat),JM p i n<0->∀ k,i<=k->k<i+n->p k=false
 |0,i,_,k,d,e=>by omega
 |n+1,i,a,k,d,e=>by
  rw[JM] at a;rcases c:p i with _|_
  ·rw[c] at a;simp only[CJ,if_false] at a;rcases Nat.eq_or_lt_of_le d with b|b
   ·rw[<- b];exact c
   ·exact QU n (i+1) a k b (by omega)
  ·rw[c] at a;simp only[if_true] at a;omega
theorem ZW (f:CX s=true) (a:Jp v s 0<0) (i:Nat):FI v s i=false:=by
 have b:=GR.1 f;have d:Xu s=false:=by
  unfold Xu I5;rw[Bool.or_eq_false_iff,Ag,Ag];have c:=b.2.1;unfold Cc at c;constructor<;>omega
 unfold Jp at a;rw[d] at a;simp only[CJ,if_false,Int.toNat_zero,Nat.sub_zero] at a;have g:1<=(AU s).length:=by have:=b.2.1;rw[Eo] at this;omega
 rcases Co i (AU v).length with e|e
 ·exact QU _ _ a i (EN _) (by omega)
 ·exact MJ (by omega) (by omega)
def dQ (R:List Dj) (m:Nat) (L:List BB):Prop:=∃ a∈R.drop m,EA a=true/\∃ v∈L,0<=Jp v a.BX 0
def Zk (w:Bc) (R:List Dj) (m:Nat) (L:List BB) (e:Ending) (w':Bc):Prop:=∃ a,e= .returned (.bool a)/\(a=false->¬dQ R m L)/\Au w w'
theorem V5 {r:Dj} (a:EA r=true):CX r.BX=true:=by
 unfold EA at a;simp only[De] at a;exact a.1
theorem Yb {m:Nat} (b:¬dQ R m L):∀ r∈R.drop m,EA r=true->∀ v∈L,∀ i,FI v r.BX i=false:=fun r c a v d i =>
 ZW (V5 a) (Decidable.byContradiction fun e=>b ⟨r,c,a,v,d,by omega⟩) i
theorem YD (ae m:Nat) (A q:Option Addr) (c y:Nat) (cj cl:Value) (w:Bc) (hk:AX w ae 412 #[.slice A R.length c,cj,cl]) (bv:R.length<=400) (D:R.length<=c) (ay:∀ r∈R,r.BX.size<=16/\r.Kn.size<=16) (f:Ay FH w w.heap.size 2 A R) (aa:m<=R.length)
  (bs:L.length<=5000) (ao:∀ v∈L,v.size<=16) (au:Ay Value.string w w.heap.size 1 q L) :
  Calls Tryz.prog 291 #[zP ae,.agg #[zI (m:Int),.slice q L.length y]] w (Zk w R m L):=by
 obtain⟨cv,bt,ct,ca,cu⟩:=info_parts K9;obtain⟨cm,az,av⟩:=UH (P:=Tryz.prog) (t:=334) (c:=c) Tryz.underlying334 bt ca f rfl D (m:Int) m rfl aa;have g:Au w (w.alloc (.cells #[zI (m:Int),.slice q L.length y] 423)):=(Aa _ w).alloc _;have l:Hid (AX (w.alloc (.cells #[zI (m:Int),.slice q L.length y] 423)) w.heap.size 423 #[zI (m:Int),.slice q L.length y]):=Lh (AX.new w _ _);have B:=Lh (hk.Ab g id);have s:=Lh g;have t:=Lh (av.AB g);have x:=Lh (au.AB g);have bj:=Lh ay;have bg:=Lh ao;obtain⟨p,ab⟩:∃ p,p=R.length:=⟨_,rfl⟩
 obtain⟨j,ac⟩:∃ p,p=L.length:=⟨_,rfl⟩
 have bh:=Lh ab;have ag:=Lh ac;rw[<- ab] at az B aa D;rw[<- ac] at l B s t x ⊢;have bx:p<=400:=by omega
 have cp:j<=5000:=by omega
 have bw:(m:Int)<=(p:Int):=by omega
 clear hk bv ay f au av bs ao g ab ac;go_in;go_upto_region 1 with(fail)
 obtain⟨bc,ba⟩:∃ E,E=w.heap.size:=⟨_,rfl⟩
 generalize w.alloc (.cells #[zI (m:Int),.slice q j y] 423)=z at l B s t x ⊢;rw[<- ba] at l ⊢;clear ba;have ci:Cl z bc 0 (zI (m:Int)):=l.out.cell 0;have cc:Cl z ae 0 (.slice A p c):=B.out.cell 0;go_upto_region 2 with(fail)
 go_quiet (fail);have g:Au z (z.drewN nq):=(Aa _ z).drewN nq;replace l:=Lh (l.out.Ab g id);replace s:=Lh (s.out.to g);replace t:=Lh (t.out.AB g);replace x:=Lh (x.out.AB g);generalize z.drewN nq=cf at l s t x ⊢;clear ci cc g az B;obtain⟨n,G⟩:∃ n,n=R.drop m:=⟨_,rfl⟩
 rw[<- G] at t;have aj:=Lh G;obtain⟨cz,hq⟩:∃ cz,cz=p-m:=⟨_,rfl⟩
 have ai:Hid (n.length=cz):=Lh (by rw[G,Cb,<- bh.out,hq]);rw[<- hq];have cs:(cz:Int)<=400:=by omega
 clear hq G aa bw D bx;go_wp2;go_loopg [17] cz fun gk i wr=>∃ b:Nat,b+gk=cz/\i=zI b/\Hid (∀ r∈n.take b,EA r=true->∀ v∈L,Jp v r.BX 0<0)/\Hid (Au cf wr)
 case atStart=>exact⟨0,by omega,rfl,Lh fun r a=>by simp at a,Lh (Aa _ _)⟩
 case round =>
  obtain⟨b,bu,rfl,O,e⟩:=hrel;obtain⟨U,Z⟩:∃ U,U=gk:=⟨_,rfl⟩
  rw[<- Z] at bu;have Q:=Lh Z;clear Z;by_cases co:b<cz
  ·have cb:(b:Int)<(cz:Int):=by omega
   have I:b<n.length:=by have:=ai.out;omega
   obtain⟨F,K,rfl,X,H⟩:=t.out b I;obtain⟨r,f⟩:∃ r,r=n[b]:=⟨_,rfl⟩
   have ak:Hid (n.take (b+1)=n.take b++[r]):=Lh (by rw[AP I,f]);have aw:r∈R:=by rw[f];exact List.mem_of_mem_drop (by rw[<- aj.out];exact Br I)
   rw[<- f] at H;have ax:=bj.out r aw;have an:=fun W=>Py r W (by omega) (by omega)
   obtain⟨h,k⟩:=r;have M:Hid (∀ W,Calls Tryz.prog 295 #[.agg #[.string h,.string k]] W (Rt (.bool (EA ⟨h,k⟩)) (Au W))):=Lh an;have al:Cl wr F (K+b*2) (.string h):=(e.out.cell (p:=zA F (K+b*2)) X id).trans (H 0 (by omega));have bo:Cl wr F (K+b*2+1) (.string k):=(e.out.cell (p:=zA F (K+b*2+1)) X id).trans (H 1 (by omega));have bf:Hid (h.size<=16):=Lh ax.1;clear H f ax an X I aw;go_upto_region 4 with(fail)
   have g:Au wr (wr.alloc (.cells #[.string h,.string k] 381)):=(Aa _ wr).alloc _;have u:Hid (AX (wr.alloc (.cells #[.string h,.string k] 381)) wr.heap.size 381 #[.string h,.string k]):=Lh (AX.new wr _ _);replace e:=Lh (e.out.to g);obtain⟨cy,bb⟩:∃ E,E=wr.heap.size:=⟨_,rfl⟩
   generalize wr.alloc (.cells #[.string h,.string k] 381)=cw at u e ⊢;rw[<- bb] at u ⊢;clear bb g al bo;generalize aq:EA ⟨h,k⟩=bp at M;have bd:=Lh aq;clear aq;rcases bp with _|_
   ·go_wp2_with (first
     |(refine AA rfl (.tmp 6) rfl rfl u.out Tryz.underlying381 rfl KQ ?_)
     |(go_at_call 295;refine(M.out _).mono ?_;rintro S af ⟨rfl,hk⟩;replace e:=Lh (e.out.to hk);clear hk))
    go_roundg (gk-1)
    case measure=>have:=Q.out;omega
    case rel =>
     refine⟨b+1,by have:=Q.out;omega,by go_num,Lh fun r f=>?_,e⟩;rw[ak.out] at f;rcases Bd.1 f with a|a
     ·exact O.out r a
     ·rw[Ai.1 a,bd.out];intro a;cases a
   ·go_upto_region 6 with(first
     |(refine AA rfl (.tmp 6) rfl rfl u.out Tryz.underlying381 rfl KQ ?_)
     |(go_at_call 295;refine(M.out _).mono ?_;rintro S af ⟨rfl,hk⟩;replace e:=Lh (e.out.to hk);replace u:=Lh (u.out.Ab hk id);clear hk;have bl:=Lh (l.out.Ab e.out id);have ck:Cl af bc 1 (.slice q j y):=bl.out.cell 1))
    clear ck;have bi:=Lh (x.out.AB e.out);go_loopg [27] j fun br i cg=>∃ d:Nat,d+br=j/\i=zI d/\Hid (∀ v∈L.take d,Jp v h 0<0)/\Hid (Au af cg)
    case atStart=>exact⟨0,by omega,rfl,Lh fun v a=>by simp at a,Lh (Aa _ _)⟩
    case round =>
     obtain⟨d,cq,rfl,ah,C⟩:=hrel;by_cases cr:d<j
     ·have ce:(d:Int)<(j:Int):=by omega
      have J:d<L.length:=by have:=ag.out;omega
      obtain⟨bn,cd,rfl,ap,Y⟩:=Ay.BV (V:=Value.string) (fun _=>rfl) bi.out J;obtain⟨v,o⟩:∃ v,v=L[d]:=⟨_,rfl⟩
      rw[<- o] at Y;have bk:Hid (L.take (d+1)=L.take d++[v]):=Lh (by rw[AP J,o]);have bz:=bg.out v (by rw[o];exact Br J);have al:=(C.out.cell (p:=zA bn (cd+d)) ap id).trans Y;have bm:=Lh (u.out.Ab C.out id);have cx:=bm.out.cell 0;have N:=Lh fun W=>ZV v h 0 W (by omega) (by have:=bf.out;omega) ⟨by omega,by omega⟩
      clear Y ap o bz J;generalize ar:Jp v h 0=T at N;have be:=Lh ar;clear ar;by_cases am:0<=T
      ·have bq:decide ((0:Int)<=T)=true:=by rw[Bb];exact am
       go_wp2_with (go_at_call 296;refine(N.out _).mono ?_;rintro S ch ⟨rfl,rfl⟩);go_ret;exact⟨true,rfl,fun a=>(by cases a),(s.out.to e.out).to C.out⟩
      ·have bq:decide ((0:Int)<=T)=false:=by rw[Ag];exact am
       go_wp2_with (go_at_call 296;refine(N.out _).mono ?_;rintro S ch ⟨rfl,rfl⟩);go_roundg (gk-1)
       case measure=>omega
       case rel =>
        refine⟨d+1,by omega,by go_num,Lh fun E hx=>?_,C⟩;rw[bk.out] at hx;rcases Bd.1 hx with a|a
        ·exact ah.out E a
        ·rw[Ai.1 a,be.out];omega
     ·have ce:¬(d:Int)<(j:Int):=by omega
      obtain rfl:d=j:=by omega
      go_wp2;go_roundg (U-1)
      case measure=>have:=Q.out;omega
      case rel =>
       refine⟨b+1,by omega,by go_num,Lh fun r f=>?_,Lh (e.out.to C.out)⟩;rw[ak.out] at f;rcases Bd.1 f with a|a
       ·exact O.out r a
       ·rw[Ai.1 a];intro _ v o;have:=ah.out;rw[Bt (by have:=ag.out;omega)] at this;exact this v o
  ·have cb:¬(b:Int)<(cz:Int):=by omega
   obtain rfl:b=cz:=by omega
   go_wp2;go_ret;refine⟨false,rfl,fun _=>?_,s.out.to e.out⟩;rintro⟨r,f,D,v,o,cn⟩;have:=O.out;rw[Bt (by have:=ai.out;omega)] at this;have:=this r (by rw[aj.out];exact f) D v o;omega
end

end Go.Proofs.YtcjcndnjpedniaaGreat
