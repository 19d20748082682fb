/- A part of the proof of TopUsers. -/
import Derived.RangeFuncNested
import Derived.RangeFuncBound
import Derived.RangeFuncCalls
import Derived.RangeFuncLeaves
import Derived.OwnWalkIn
import Derived.TacticsInMore
import Derived.LoopNIn
import Derived.LoopIn
import Derived.RangeFuncFrom
import Derived.Test.YtcjcndnjpedniaaGreatB20
namespace Go.Proofs.YtcjcndnjpedniaaGreat
set_option linter.all false
set_option maxRecDepth 100000
set_option maxHeartbeats 8000000
open Go.RowKit
section
variable {W W' w:Bc} {base m:Nat} {R:List Dj} {u v:BB}
theorem PM (a:Au W W'):W.grownBy W' none:=⟨a.os,a.tape,a.output,a.size,fun c b _=>a.block c b id⟩
def nU (W:Bc) (k:Nat):Prop:=∃ b a,(a=452∨a=381)/\AX W k a b
def KS (b : Nat) (a : Nat->Prop) (A:Bc) (k:Nat):Prop:=¬(k<b/\¬a k)/\¬nU A k
def WL (b : Nat) (a : Nat->Prop) (A B:Bc):Prop:=Am (KS b a A) A B
theorem WL.trans {b : Nat} {a : Nat->Prop} {A B C:Bc} (d:WL b a A B) (k:WL b a B C):WL b a A C :=
 d.AJ k fun l j g=>⟨g.1,fun ht=>g.2 (by
  obtain⟨c,h,e,f⟩:=ht;exact⟨c,h,e,f.Ab d fun i=>i.2 ⟨c,h,e,f⟩⟩)⟩
theorem WL.put (c : Nat) (f : Nat->Prop) (W:Bc) (l:Nat) (d e:Obj) (p:c<=l) (h:W.heap[l]?= some d) (k:d.isCells=false):WL c f W (W.putObj l e):=by
 have a:=grownBy_putObj' W l e;refine⟨a.os,a.tape,a.output,a.size,fun m i j=>a.block m i fun g=>j ?_⟩;cases g;refine⟨fun o=>by omega,?_⟩;rintro⟨n,q,_,b⟩;unfold AX at b;rw[h] at b;cases b;cases k
abbrev StepA (R:List Dj) (u:BB):={a:(Int × Int) × BB // J5 R u a.2}
def lS (x:StepA R u):Array Value:=#[.agg #[zI x.1.1.1,zI x.1.1.2],.string x.1.2]
def allA (R:List Dj) (u:BB) (xs:List (StepA R u)):Prop:=∀ v,J5 R u v->∃ a∈xs,a.1.2=v
def rD (S f:List (StepA R u)->Prop) (c d:List (StepA R u)->Bc->Prop) (e:Ending) (W':Bc):Prop:=(∃ v,e= .returned v)/\((∃ b,S b/\c b W')∨(∃ a,f a/\d a W'))
theorem mZ {i:Nat} (a:(Q7 R)[i]?= some v) (c:CX v=true):∃ r,R[i]?= some r/\EA r=true/\v=r.BX:=by
 unfold Q7 at a;rw[Ch] at a;rcases d:R[i]? with _|r
 ·rw[d] at a;cases a
 ·rw[d] at a;injection a with a;dsimp only at a;rcases b:EA r with _|_
  ·rw[b] at a;subst a;have e:CX ⟨#[]⟩=false:=by decide
   simp only[CJ,if_false] at c;rw[e] at c;cases c
  ·rw[b] at a;exact⟨r,rfl,b,a.symm⟩
structure RF (w1 W:Bc) (bm bw br m:Nat) (u:BB) (A:Option Addr) (n c:Nat):Prop where
 k:Au w1 W
 bm:AX W bm 437 #[zP m]
 bw:AX W bw 27 #[.string u]
 br:AX W br 334 #[.slice A n c]
theorem RF.AB {g:Bc} {d f e n c:Nat} {A:Option Addr} (a:RF g W d f e m u A n c) (b:Au W W'):RF g W' d f e m u A n c :=
 ⟨a.k.to b,a.bm.Ab b id,a.bw.Ab b id,a.br.Ab b id⟩
theorem RF.round {j:Bc} {e g f n c d : Nat} {A:Option Addr} {b : Nat->Prop} (h:RF j W e g f m u A n c) (i:WL d b W W') (t:j.heap.size<=d) (hF:∀ k,b k->j.heap.size<=k) (r:e<d) (l2:g<d) (s:f<d) (l:¬b e) (o:¬b g) (p:¬b f):RF j W' e g f m u A n c :=
 ⟨h.k.AJ i fun k v a=>a.1 ⟨by omega,fun q=>by have:=hF k q;omega⟩,h.bm.Ab i fun a=>a.1 ⟨r,l⟩,h.bw.Ab i fun a=>a.1 ⟨l2,o⟩,h.br.Ab i fun a=>a.1 ⟨s,p⟩⟩
theorem Ym {i b n:Nat} {d : Nat->Prop} {v:Value} {xs:List Value} (a:W.ownsRow b 452 2 v n xs) (f:WL i d W W'):W'.ownsRow b 452 2 v n xs :=
 Aj a f fun k c h=>h.2 (by
  rcases a.2 with⟨rfl,_⟩|⟨l,j,e,rfl,_,g,_⟩
  ·cases c
  ·cases c;exact⟨e,_,.inl rfl,g⟩)
theorem Sz (G x:Bc) (z q B:Nat) (A:Option Addr) (c:Nat) (M : Nat->Prop) (ca:Mh G base m (Q7 R)) (am:Ay FH G G.heap.size 2 A R) (ch:R.length<=400) (cm:∀ r∈R,r.BX.size<=16/\r.Kn.size<=16) (bc:CX u=true)
  (D:Au G x) (hF:∀ k,M k->G.heap.size<=k) (C:AX x z 437 #[zP m]) (N:AX x q 27 #[.string u]) (af:AX x B 334 #[.slice A R.length c]) (ee:¬M z) (ef:¬M q) (eg:¬M B) :
  SeqStopsK Fence.wide 2 Tryz.prog 301 #[zP z,zP q,zP B] (lS (R:=R) (u:=u)) (WL x.heap.size M) (allA R u) (fun _=>True) 100001 x:=by
 intro l J ds W O bw em cd U;refine callsIn_wide.2 ?_;show Calls Tryz.prog 301 #[.func (.yield l) #[] #[],zP z,zP q,zP B] W (rD (allA R u) (fun _=>True) J ds);have cp:u.size<=16:=ET bc;have bs:RF G W z q B m u A R.length c:=by
  have I:∀ k,k<x.heap.size->W.heap[k]?= x.heap[k]?:=fun k i=>O.block k i
  refine⟨⟨O.os.trans D.os,O.tape.trans D.tape,O.output.trans D.output,AV D.size O.size,fun k i fn=>(I k (Bj i D.size)).trans (D.block k i fn)⟩,(I _ C.lt).trans C,(I _ N.lt).trans N,(I _ af.lt).trans af⟩
 have Q:=Lh bs;have de:=Lh ca;have di:=Lh am;have dj:=Lh cm;have dn:=Lh bc;have aw:=Lh cp;have dd:=Lh ch;have bj:=Lh bw;have dr:=Lh cd;have db:=Lh U;have bo:=Lh fun(X Y:Bc) (h:RF G X z q B m u A R.length c) (k:WL x.heap.size M X Y)=>h.round k D.size hF C.lt N.lt af.lt ee ef eg
 obtain⟨F,fn⟩:∃ F,F=R.length:=⟨_,rfl⟩
 have df:=Lh fn;rw[<- fn] at Q bo;clear bs ca am cm bc cp ch bw cd U fn em hF C N af D O;have dv:Cl W z 0 (zP m):=Q.out.bm.cell 0;have dw:Cl W q 0 (.string u):=Q.out.bw.cell 0;go_in;go_upto_region 1 with(go_at_call 302;refine(bB (ws:=Q7 R) (s:=u) _ (de.out.AB Q.out.k) (by have:=dd.out;simp[Q7];omega) aw.out).mono ?_;rintro T cw ⟨be,t,dx,y,rfl,cb,bu,bt,ck,i⟩;have bl:=Lh cb;have ar:=Lh bu;have bh:=Lh bt;have dg:=Lh ck;have cy:=Lh (Q.out.AB i);have dc:Hid (J [] cw):=Lh (bj.out _ _ _ _ db.out (PM i) fun r T=>by cases T);have dp:Hid (W.heap.size<=cw.heap.size):=Lh i.size;clear cb bu bt ck i dv dw)
 obtain⟨du,ay⟩:∃ b,b=W.heap.size:=⟨_,rfl⟩
 have ey:=Lh ay;rw[<- ay] at bl;clear ay;go_loopg [14] t fun gk a wr=>∃ (d:Nat) (L:List (StepA R u)),d+gk=t/\a=zI d/\Hid (J L wr)/\Hid (wr.ownsRow du 452 2 (.slice be t dx) t (BN TL y))/\Hid (RF G wr z q B m u A F c)/\Hid (L.length<=d)/\Hid (∀ w fi k:Nat,w<d->y[w]?= some ((fi:Int),(k:Int))->∀ r,R[k]?= some r->∃ P∈L,P.1.2=Zb u fi r)/\Hid (W.heap.size<=wr.heap.size)
 case atStart=>exact⟨0,[],by omega,rfl,dc,bl,cy,Lh (AY _),Lh fun w fi k h=>by omega,dp⟩
 case round =>
  obtain⟨d,L,fb,rfl,bk,n,g,bm,bg,dq⟩:=hrel;by_cases fc:d<t
  ·have er:(d:Int)<(t:Int):=by omega
   have fd:t<=100000:=dg.out;have aj:d<y.length:=by have:=ar.out;omega
   obtain⟨h,ah⟩:∃ h,h=y[d]:=⟨_,rfl⟩
   have bv:Ay TL wr wr.heap.size 2 be y:=Ay.Hu (V:=TL) (fun _=>rfl) (by have:=n.out;rw[<- ar.out] at this;exact this);obtain⟨b,o,rfl,I,E⟩:=bv d aj;have cj:h∈y:=by rw[ah];exact Br aj
   obtain⟨fi,eo,al,a,v,ai,cf,cg,bb⟩:=(bh.out h).1 cj;obtain⟨r,Z,K,rfl⟩:=mZ cf cg;have da:Hid (y[d]?= some ((fi:Int),(a:Int))):=Lh (by rw[Ah aj,<- ah];obtain⟨ha,I⟩:=h;simp only at al ai;rw[al,ai]);have az:=E 0 (by omega);have ba:=E 1 (by omega);rw[<- ah] at az ba;have dy:Cl wr b (o+d*2) (zI (fi:Int)):=by rw[<- al];exact az
   have dz:Cl wr b (o+d*2+1) (zI (a:Int)):=by rw[<- ai];exact ba
   have co:=Qx dn.out K bb;have aa:J5 R u (Zb u fi r):=⟨r,Bn Z,K,fi,bb,rfl⟩
   have bp:=Lh aa;have dm:=Lh co.1;have bn:=Lh Z;have fl:a<R.length:=(AC.1 Z).1;have fa:(a:Int)<(F:Int):=by have:=df.out;omega
   have bi:=Lh fl;have ff:fi<=8:=by have:=aw.out;have:=BG u;omega
   have av:=Lh (dj.out r (Bn Z));clear E az ba ah cj eo al ai cf cg bb Z K I bv aj co aa fl;go_upto_region 3 with(fail)
   have e:Au wr (wr.alloc (.cells #[zI (fi:Int),zI (a:Int)] 452)):=(Aa _ wr).alloc _;have j:Hid (AX (wr.alloc (.cells #[zI (fi:Int),zI (a:Int)] 452)) wr.heap.size 452 #[zI (fi:Int),zI (a:Int)]):=Lh (AX.new wr _ _);replace n:=Lh (Aj n.out e fun _ _ h=>h);replace g:=Lh (g.out.AB e);have p:=Lh e;obtain⟨ao,cq⟩:∃ ao,ao=wr.heap.size:=⟨_,rfl⟩
   generalize wr.alloc (.cells #[zI (fi:Int),zI (a:Int)] 452)=fj at j n g p ⊢;rw[<- cq] at j ⊢;clear cq dy dz e;obtain⟨S,ab,hA2,ax,ag⟩:=di.out a bi.out;subst hA2;have fl:=bi.out;obtain⟨an,K⟩:∃ an,an=R[a]:=⟨_,rfl⟩
   rw[<- K] at ag;obtain rfl:an=r:=by have:=bn.out;rw[Ah fl,<- K] at this;injection this
   clear K fl;obtain⟨f,fk⟩:=an;have ea:Cl fj S (ab+a*2) (.string f):=(g.out.k.cell (p:=zA S (ab+a*2)) ax id).trans (ag 0 (by omega));have eb:Cl fj S (ab+a*2+1) (.string fk):=(g.out.k.cell (p:=zA S (ab+a*2+1)) ax id).trans (ag 1 (by omega));have ec:Cl fj B 0 (zS S ab F c):=g.out.br.cell 0;have ed:Cl fj ao 1 (zI (a:Int)):=j.out.cell 1;have bf:Hid (∀ W,Calls Tryz.prog 133 #[.string f] W (Rt (zI (Cc f)) fun bd=>∃ F,bd=W.drewN F)):=Lh fun W=>(F5 f W (by have:=av.out.1;unfold maxLen;dsimp only at this;omega)).mono fun _ _ P=>⟨P.1,0,P.2.symm⟩
   have ci:i64 (Cc f):=by have:=av.out.1;dsimp only at this;unfold i64 Cc;omega
   have br:∀ W,Calls Tryz.prog 228 #[.string u,zI (fi:Int),zI (Cc f),.string fk] W (Rt (.tuple #[.string (Zb u fi ⟨f,fk⟩),zO]) fun bd=>∃ k,bd=W.drewN k):=fun W=>by
    have:=UL u (fi:Int) (Cc f) fk W (by have:=aw.out;omega) (by have:=av.out.2;dsimp only at this;omega) ⟨by omega,by omega⟩ ci;have U:=dm.out;dsimp only at U;rw[U] at this;exact this
   have aq:=Lh br;clear br ci ag ax;generalize cn:Zb u fi ⟨f,fk⟩=eu at bp aq;have dl:=Lh cn;clear cn;generalize Cc f=fg at bf aq;go_upto_region 4 with(fail)
   have e:Au fj (fj.alloc (.cells #[.string f,.string fk] 381)):=(Aa _ fj).alloc _;have ac:Hid (AX (fj.alloc (.cells #[.string f,.string fk] 381)) fj.heap.size 381 #[.string f,.string fk]):=Lh (AX.new fj _ _);replace j:=Lh (j.out.Ab e id);replace n:=Lh (Aj n.out e fun _ _ h=>h);replace g:=Lh (g.out.AB e);replace p:=Lh (p.out.to e);obtain⟨ap,cs⟩:∃ ap,ap=fj.heap.size:=⟨_,rfl⟩
   generalize fj.alloc (.cells #[.string f,.string fk] 381)=H at j n g p ac ⊢;rw[<- cs] at ac ⊢;clear cs e ea eb ec ed;have eh:Cl H ao 0 (zI (fi:Int)):=j.out.cell 0;have ei:Cl H ap 0 (.string f):=ac.out.cell 0;have ej:Cl H ap 1 (.string fk):=ac.out.cell 1;have ek:Cl H q 0 (.string u):=g.out.bw.cell 0;go_upto_region 5 with(fail)
   go_quiet (first|(go_at_call 133;with_reducible exact Calls.quiet_of (bf.out _))|(go_at_call 228;with_reducible exact Calls.quiet_of (aq.out _)));have e:Au H (H.drewN nq):=(Aa _ H).drewN nq;replace j:=Lh (j.out.Ab e id);replace n:=Lh (Aj n.out e fun _ _ h=>h);replace g:=Lh (g.out.AB e);replace p:=Lh (p.out.to e);generalize H.drewN nq=cx at j n g p ⊢;clear e eh ei ej ek;have ew:=j.out.cell 0;have ex:=j.out.cell 1;have el:J L cx:=bj.out _ _ _ _ bk.out (PM p.out) fun r T=>by cases T
   obtain⟨ez,fh,assign,body,cr,cc⟩:=dr.out L ⟨(((fi:Int),(a:Int)),eu),bp.out⟩ cx el (by have:=bm.out;omega);simp only[lS] at cr;go_upto_region 6 with(fail)
   refine(wpIn_wide (n:=2)).1 ?_
   gi_wp2
   refine cc.mono ?_;clear cr cc ew ex;rintro T ev (⟨rfl,bx,ak⟩|⟨rfl,bz⟩)
   ·have au:=Lh bx;have cz:=Lh (bo.out _ _ g.out ak);have dh:=Lh (Ym n.out ak);have dk:Hid (W.heap.size<=ev.heap.size):=Lh (by have:=dq.out;have:=p.out.size;have:=ak.size;omega);clear bx ak
    gi_wp2
    go_wp2;go_roundg (gk-1)
    case measure=>omega
    case rel =>
     refine⟨d+1,_,by omega,by go_num,au,dh,cz,Lh (by rw[Ap];have:=bm.out;simp only[BF,CV];omega),Lh fun w cv ct hq fm et cl=>?_,dk⟩;rcases Co w d with C|C
     ·obtain⟨P,ep,eq⟩:=bg.out w cv ct C fm et cl;exact⟨P,Bd.2 (.inl ep),eq⟩
     ·obtain rfl:w=d:=by omega
      rw[da.out] at fm;injection fm with fm;injection fm with fe i;obtain rfl:fi=cv:=by omega
      obtain rfl:a=ct:=by omega
      have:=bn.out;rw[cl] at this;cases this;exact⟨_,Bd.2 (.inr (Ai.2 rfl)),dl.out.symm⟩
   ·have au:=Lh bz;clear bz
    gi_wp2
    go_wp2;refine bodyPost_ret (results_none rfl _ _ _) rfl ?_;exact⟨⟨_,rfl⟩,.inr ⟨_,trivial,au.out⟩⟩
  ·have er:¬(d:Int)<(t:Int):=by omega
   obtain rfl:d=t:=by omega
   go_wp2;refine bodyPost_ret (results_none rfl _ _ _) rfl ?_;refine⟨⟨_,rfl⟩,.inl ⟨L,?_,bk.out⟩⟩;rintro v ⟨r,am,E,a,aa,rfl⟩;obtain⟨k,i⟩:=Dh.1 am;have ce:CX r.BX=true:=by
    unfold EA at E;simp only[De] at E;exact E.1
   have en:a<(AU u).length:=by
    have C:=Md aa;have N:=(GR.1 ce).2.1;rw[Eo] at N;omega
   have fl:((a:Int),(k:Int))∈y:=(bh.out _).2 ⟨a,en,rfl,k,r.BX,rfl,by unfold Q7;rw[Ch,i];simp[E],ce,aa⟩;obtain⟨w,hq⟩:=Dh.1 fl;exact bg.out w a k (by have:=(AC.1 hq).1;have:=ar.out;omega) hq r i
end

section
variable {w0 w1 W W':Bc} {base r pb b9 b10 i:Nat} {vw vf:Value} {f:BB->Option Nat} {L L':List BB} {Ds:List Nat} {R:List Dj} {u v:BB}
theorem EC.Ab {S:Nat->Prop} (a:EC W base r L vw vf pb f) (c:Am S W W') (b:∀ k,SV r pb vw vf k->¬S k):EC W' base r L vw vf pb f:=by
 obtain⟨g,hx⟩:=a.fs;exact⟨a.ge,a.BR.Ab c (b _ (.inl rfl)),Aj a.ws c fun d e=>b d (.inr (.inr (.inl e))),⟨g,Aj hx c fun d e=>b d (.inr (.inr (.inr e)))⟩,a.gp,a.mp.Ab c (b _ (.inr (.inl rfl))),a.mem⟩
theorem EC.MZ (a:EC W base r L vw vf pb f) {k:Nat} (hk:SV r pb vw vf k):base<=k:=by
 obtain⟨b,hx⟩:=a.fs;rcases hk with rfl|rfl|hk|hk
 ·exact a.ge
 ·exact a.gp
 ·exact BQ a.ws hk
 ·exact BQ hx hk
theorem EC.iA (a:EC W base r L vw vf pb f) {k:Nat} (hk:SV r pb vw vf k):k<W.heap.size:=by
 obtain⟨b,hx⟩:=a.fs;rcases hk with rfl|rfl|hk|hk
 ·exact a.BR.lt
 ·exact a.mp.lt
 ·exact Gd a.ws hk
 ·exact Gd hx hk
theorem Iq {e size n:Nat} {v:Value} {xs:List Value} {g:Nat} (c:W.ownsRow base e size v n xs) (a:v.ownBlock=some g):∃ cs,AX W g e cs:=by
 rcases c.2 with⟨rfl,_⟩|⟨h,f,b,rfl,_,d,_⟩
 ·cases a
 ·cases a;exact⟨b,d⟩
theorem EC.WU (a:EC W base r L vw vf pb f) {k:Nat} (hk:SV r pb vw vf k):k=pb∨∃ t cs,AX W k t cs/\(t=433∨t=27∨t=443):=by
 obtain⟨c,hx⟩:=a.fs;rcases hk with rfl|rfl|hk|hk
 ·exact .inr ⟨_,_,a.BR,.inl rfl⟩
 ·exact .inl rfl
 ·obtain⟨cs,b⟩:=Iq a.ws hk;exact .inr ⟨_,_,b,.inr (.inl rfl)⟩
 ·obtain⟨cs,b⟩:=Iq hx hk;exact .inr ⟨_,_,b,.inr (.inr rfl)⟩
theorem EC.Ky (d:EC W base r L vw vf pb f) {g:Nat} {t:TypeId} {cs:Array Value} (c:AX W g t cs) (ht:t≠433/\t≠27/\t≠443):¬SV r pb vw vf g:=fun e=>by
 rcases d.WU e with rfl|⟨h,i,b,a⟩
 ·exact d.mp.Ee c rfl
 ·have:t=h:=by
   unfold AX at c b;rw[c] at b;injection b with b;injection b
  subst this;rcases a with a|a|a
  ·exact ht.1 a
  ·exact ht.2.1 a
  ·exact ht.2.2 a
theorem EC.Lv (c:EC W base r L vw vf pb f) {g:Nat} {b:Obj} (d:W.heap[g]?= some b) (h:b.isCells=false) (i:g≠pb):¬SV r pb vw vf g:=fun e=>by
 rcases c.WU e with rfl|⟨k,j,a,_⟩
 ·exact i rfl
 ·unfold AX at a;rw[d] at a;cases a;cases h
structure Ve (w1 W:Bc) (b9 b10 r pb i:Nat) (vw vf:Value) (f:BB->Option Nat) (L:List BB) (Ds:List Nat):Prop where
 k1:Au w1 W
 x9:AX W b9 427 #[zP r]
 SK:AX W b10 3 #[zI (i:Int)]
 row:EC W w1.heap.size r L vw vf pb f
 ds:∀ D∈Ds,W.heap[D]?= some (.deferred (some []))
 dn:Ds.Nodup
 dl:∀ D∈Ds,w1.heap.size<=D
theorem Ve.Ab {S:Nat->Prop} (a:Ve w1 W b9 b10 r pb i vw vf f L Ds) (c:Am S W W') (e:∀ k,k<w1.heap.size->¬S k) (h:¬S b9) (g:¬S b10) (m:∀ k,SV r pb vw vf k->¬S k) (j:∀ b∈Ds,¬S b):Ve w1 W' b9 b10 r pb i vw vf f L Ds :=
 ⟨a.k1.AJ c fun k l n=>e k l n,a.x9.Ab c h,a.SK.Ab c g,a.row.Ab c m,fun b d=>(c.block b (Et (a.ds b d)) (j b d)).trans (a.ds b d),a.dn,a.dl⟩
theorem Ve.AB (a:Ve w1 W b9 b10 r pb i vw vf f L Ds) (b:Au W W'):Ve w1 W' b9 b10 r pb i vw vf f L Ds:=a.Ab b (fun _ _ a=>a) id id (fun _ _ a=>a) fun _ _ a=>a
theorem Ve.own {B:Nat} {h:Option Nat} (c:Ve w1 W b9 b10 r pb i vw vf f L Ds) (w:w1.heap.size<=B) (x:pb<B) (u:∀ b∈Ds,b<B) (v:W.grownBy W' h) (d:∀ k,h=some k->B<=k/\∃ e:Obj,W.heap[k]?= some e/\e.isCells=false):Ve w1 W' b9 b10 r pb i vw vf f L Ds:=by
 have s:Am (fun k=>h=some k) W W':=(Aa _ W).grown v fun k a _=>a
 have n:∀ {g t cs},AX W g t cs->¬h=some g:=fun m a=>by
  obtain⟨_,e,j,l⟩:=d _ a;unfold AX at m;rw[m] at j;cases j;cases l
 refine c.Ab s (fun k o a=>?_) (n c.x9) (n c.SK) (fun k o a=>?_) fun b q a=>?_
 ·have:=(d k a).1;omega
 ·obtain⟨j,e,l,p⟩:=d k a;exact c.row.Lv l p (by omega) o
 ·have:=(d b a).1;have:=u b q;omega
structure kJ (R:List Dj) (u:BB) (b i:Nat) (L:List BB):Prop where
 nd:L.Nodup
 hd:u∈L
 re:∀ v∈L,Fv R u v
 le:L.length<=b
 done:∀ q v,q<i->L[q]?= some v->∀ x,J5 R v x->x∈L
theorem Qj (a:L.Nodup):(KG L v).Nodup:=by
 unfold KG;rcases d:Jy v L with _|_
 ·simp only[CJ,if_false];rw[List.nodup_append];exact⟨a,by simp,fun e ha f b c=>KU.1 d (by rw[Ai] at b;rw[<- b,<- c];exact ha)⟩
 ·exact a
theorem cZ:v∈KG L v:=by
 unfold KG;rcases a:Jy v L with _|_
 ·simp
 ·exact JU.1 a
theorem Uw:L <+: KG L v:=by
 unfold KG;rcases Jy v L with _|_
 ·exact⟨[v],rfl⟩
 ·exact List.prefix_refl _
theorem Ux {x:BB} (a:x∈KG L v):x∈L∨x=v:=by
 unfold KG at a;rcases b:Jy v L with _|_
 ·rw[b] at a;simpa using a
 ·rw[b] at a;exact .inl a
theorem Xd {b : Type} {A B:List b} (a:A <+: B) {q:Nat} (hq:q<A.length):B[q]?= A[q]?:=by
 obtain⟨c,rfl⟩:=a;rw[Cx hq]
theorem kJ.next {b:Nat} (e:kJ R u b i L) (c:L <+: L') (g:L[i]?= some v) (l:L'.Nodup) (m:∀ x∈L',Fv R u x) (k:L'.length<=b) (n:∀ x,J5 R v x->x∈L'):kJ R u b (i+1) L':=by
 have h:∀ x∈L,x∈L':=fun x hx=>c.subset hx
 have j:=(AC.1 g).1;refine⟨l,h _ e.hd,m,k,fun d o hq a x hx=>?_⟩;rcases Co d i with f|f
 ·rw[Xd c (by omega)] at a;exact h _ (e.done d o f a x hx)
 ·obtain rfl:d=i:=by omega
  rw[Xd c j,g] at a;cases a;exact n x hx
theorem kJ.full {b:Nat} (a:kJ R u b i L) (f:L.length<=i):Le R u L :=
 full_of a.nd a.hd a.re fun v c e hx=>by
  obtain⟨d,hq⟩:=Dh.1 c;exact a.done d v (by have:=(AC.1 hq).1;omega) hq e hx
def marks (Ds:List Nat):List Deferred:=Ds.map fun a=>{target:=.collected a,args:=#[]}
theorem KT {P:Program} {h:Func} {tmps:Array Value} {Q:Ending->Bc->Prop}:∀ (Ds:List Nat) (W:Bc),Ds.Nodup->(∀ a∈Ds,W.heap[a]?= some (.deferred (some [])))->(∀ W',Am (fun k=>k∈Ds) W W'->LeavesIn Fence.wide 3 P h tmps Q [] .returning W')->LeavesInM Fence.wide 3 P h tmps Q (marks Ds) .returning W
 |[],W,_,_,d=>d W (Aa _ W)
 |a::Ds,W,g,f,d=>by
  rw[Gj] at g;have j:=f a (by simp);have m:=grownBy_putObj' W a (.deferred none);have i:Am (fun k=>k=a) W (W.putObj a (.deferred none)):=(Aa _ W).grown m fun k b _=>by cases b;rfl
  refine⟨by simp,.inl ⟨a,_,rfl,run_takeDeferred j,KT Ds _ g.2 (fun c e=>?_) fun W' l=>d W' ?_⟩⟩
  ·exact(i.block c (Et (f c (by simp[e]))) fun b=>g.1 (by rw[<- show c=a from b];exact e)).trans (f c (by simp[e]))
  ·exact(i.mono fun k _ b=>by rw[show k=a from b];simp).AJ l fun k _ n=>by simp only[BI];exact .inr n
def IA (w1:Bc) (b9 b10 r pb i d b:Nat) (vw vf:Value) (L:List BB) (Ds:List Nat) (u0:BB) (h:List (StepA R u)) (W:Bc):Prop :=
 ∃ f e g L',Ve w1 W b9 b10 r pb i f e g L' Ds/\(∀ a,SV r pb f e a->SV r pb vw vf a∨d<=a)/\L <+: L'/\L'.Nodup/\(∀ c∈L',Fv R u0 c)/\L'.length<=b/\(∀ c∈h,c.1.2∈L')/\d<=W.heap.size
def q9 (w1:Bc) (a d b:Nat) (Ds:List Nat) (u0:BB) (c:Code) (_:List (StepA R u)) (W:Bc):Prop :=
 c= .ret/\(∀ f∈Ds,W.heap[f]?= some (.deferred (some [])))/\AX W a 427 #[.pointer none]/\AX W d 32 #[zI 12]/\JK R u0 b/\Am (fun e=>e=a∨e=d) w1 W
theorem lV {a b:Nat} {u0:BB} (o:w1.heap.size<=a) (q:pb<a) (p:∀ d∈Ds,d<a):OwnFrom a (IA (R:=R) (u:=u) w1 b9 b10 r pb i a b vw vf L Ds u0):=by
 rintro y w x z ⟨v,t,e,L',f,g,h,j,k,l,m,n⟩ c s;exact⟨v,t,e,L',f.own o q p c s,g,h,j,k,l,m,AV n c.size⟩
theorem RH {j : Nat} {d:Option Nat} {g:Nat} {t:TypeId} {cs:Array Value} (a:AX W g t cs) (h:W.grownBy W' d) (i:∀ k,d=some k->j<=k/\∃ b:Obj,W.heap[k]?= some b/\b.isCells=false):AX W' g t cs :=
 a.grown h fun e=>by
  obtain⟨_,b,c,f⟩:=i g e.symm;unfold AX at a;rw[a] at c;cases c;cases f
theorem iI {i b l m:Nat} {u0:BB} {c:Code} (w:w1.heap.size<=i) (s:∀ a∈Ds,a<i):OwnFrom i (q9 (R:=R) (u:=u) w1 l m b Ds u0 c):=by
 rintro y k v t ⟨n,j,o,p,q,r⟩ e f;refine⟨n,fun a h=>(e.block a (Et (j a h)) fun d=>?_).trans (j a h),RH o e f,RH p e f,q,r.AJ ((Aa (fun g=>t=some g) k).grown e fun g d _=>d) fun g x d=>?_⟩
 ·have:=(f a d.symm).1;have:=s a h;omega
 ·have:=(f g d).1;omega
def q8 (T:Nat->BB->Act->Prop) (x:StepA R u) (b:Act) (W:Bc):Prop:=∃ a,AX W a 441 #[zI x.1.1.1,zI x.1.1.2]/\T a x.1.2 b
theorem gM {g : Nat} {T:Nat->BB->Act->Prop} {x:StepA R u} {b:Act}:OwnFrom g (fun(_:Unit) W=>q8 T x b W):=by
 rintro _ h i j ⟨a,c,d⟩ e f;exact⟨a,RH c e f,d⟩
theorem IA.AB {c b:Nat} {u0:BB} {d:List (StepA R u)} (f:IA w1 b9 b10 r pb i c b vw vf L Ds u0 d W) (a:Au W W'):IA w1 b9 b10 r pb i c b vw vf L Ds u0 d W':=by
 obtain⟨q,p,e,L',g,h,j,k,l,m,n,o⟩:=f;exact⟨q,p,e,L',g.AB a,h,j,k,l,m,n,AV o a.size⟩
theorem J8 {S:Nat->Prop} {B:Nat} (c:Am S W W') (d:∀ k a,B<=k->W.heap[k]?= some a->a.isCells=false->¬S k):KeepsFrom B W W' :=
 ⟨c.size,fun k a e b f=>(c.block k (Et b) (d k a e b f)).trans b⟩
theorem EC.round {b : Nat} {c : Nat->Prop} (d:EC W base r L vw vf pb f) (e:Am (SV r pb vw vf) W W') (hF:∀ k,SV r pb vw vf k->c k∨b<=k) (o:pb<b):KeepsFrom b W W'/\WL b c W W':=by
 refine⟨J8 e fun k p n g l=>d.Lv g l (by omega),e.mono fun k g h=>⟨fun j=>?_,fun ht=>?_⟩⟩
 ·rcases hF k h with a|a
  ·exact j.2 a
  ·omega
 ·obtain⟨m,q,a,i⟩:=ht;exact d.Ky i (by rcases a with rfl|rfl<;>exact⟨by decide,by decide,by decide⟩) h
end

end Go.Proofs.YtcjcndnjpedniaaGreat
