/- A part of the proof of TopUsers. -/
import Derived.Test.YtcjcndnjpedniaaGreatB23
namespace Go.Proofs.YtcjcndnjpedniaaGreat
set_option linter.all false
set_option maxRecDepth 100000
set_option maxHeartbeats 8000000
open Go.RowKit
structure Vk (w W:Bc) (xb kb sb ib:Nat) (A:Option Addr) (c b:Nat) (R:List Dj) (f:BB->Option Lk) (n:Nat) (acc:List Nat) (vo:Value):Prop where
 k:Au w W
 x:AX W xb 397 #[zN,zN]
 xg:w.heap.size<=xb
 look:Gi W w.heap.size kb sb A c b R f
 kg:w.heap.size<=kb
 sg:w.heap.size<=sb
 ins:W.ownsRow w.heap.size 4 1 (zS ib 0 n n) n ((List.range n).map fun i=>.bool (decide (i∈acc)))
 ord:W.ownsRow w.heap.size 3 1 vo acc.length (acc.map L9)
section
variable {w W W':Bc} {xb kb sb ib c b n:Nat} {A:Option Addr} {R R2:List Dj} {f f':BB->Option Lk} {acc:List Nat} {vo:Value} {i base:Nat}
theorem Vk.map (a:Vk w W xb kb sb ib A c b R f n acc vo) (j:Gi W' w.heap.size kb sb A c b R f') (d:Am (fun k=>k=sb) W W'):Vk w W' xb kb sb ib A c b R f' n acc vo:=by
 have h:∀ {base g p n:Nat} {i:Value} {q:List Value},W.ownsRow base g p i n q->∀ e,i.ownBlock=some e->¬e=sb:=fun o e m=>by
  obtain⟨r,l⟩:=Iq o m;exact a.look.mp.Ee l
 exact⟨a.k.AJ d fun k s g=>by have:=a.sg;omega,a.x.Ab d (a.look.mp.Ee a.x),a.xg,j,a.kg,a.sg,Aj a.ins d (h a.ins),Aj a.ord d (h a.ord)⟩
theorem iH (d:i<n):(((List.range n).map fun i=>Value.bool (decide (i∈acc))).set i (.bool true))=(List.range n).map fun k=>Value.bool (decide (k∈acc++[i])):=by
 apply Gv;intro c;rw[Eh];by_cases a:i=c
 ·subst a;simp[d]
 ·rw[Bg a];simp only[Ch];rcases Co c n with b|b
  ·rw[List.getElem?_range b];simp[BZ a]
  ·rw[En (by simpa using b)];rfl
def Zd (W:Bc) (g a:Nat) (z:Ed):Prop :=
 W.cell? (zA g a)=some (zI z.c.kind)/\W.cell? (zA g (a+1))=some (zU z.c.Aq)/\W.cell? (zA g (a+2))=some (.string z.c.Ad)/\W.cell? (zA g (a+3))=some (.slice z.A z.c.Bl.length z.k)/\W.cell? (zA g (a+4))=some (zI z.c.BX)/\W.cell? (zA g (a+5))=some (zI z.c.till)/\W.cell? (zA g (a+6))=some (zI z.c.AO)
theorem Gi.beside {S:Nat->Prop} {t:TypeId} (a:Gi W base kb sb A c b R f) (e:Am S W W') (l:∀ k,S k->∃ cs,AX W k t cs) (ht:t≠412/\t≠381/\t≠27):Gi W' base kb sb A c b R f:=by
 have i:∀ {d:Nat} {m:TypeId} {cs:Array Value},AX W d m cs->t≠m->¬S d:=fun g p j=>by
  obtain⟨s,n⟩:=l _ j;exact AX.GJ n g p rfl
 refine⟨a.BR.Ab e (i a.BR ht.1),Aj a.rules e fun d o=>by obtain⟨cs,h⟩:=Iq a.rules o;exact i h ht.2.1,a.mp.Ab e fun j=>by obtain⟨cs,h⟩:=l _ j;exact a.mp.Ee h rfl,fun q r hx=>(a.ok q r hx).Ab e fun d cs g=>i g ht.2.2⟩
theorem Gi.grown {g2 i m:Nat} {wa:Bc} (d:Gi W base kb sb A c b R f) (l:Am (fun k=>(Value.slice A R.length c).ownBlock=some k) W wa) (t:m=R.length+R2.length) (s:wa.ownsRow base 381 2 (zS g2 0 m i) m (BN FH R++BN FH R2)) :
  Gi (wa.setCell (zA kb 0) (zS g2 0 m i)) base kb sb (some (zA g2 0)) i b (R++R2) f:=by
 have u:∀ {g:Nat} {q:TypeId} {j:Array Value},AX W g q j->q≠381->¬(Value.slice A R.length c).ownBlock=some g:=fun h ht a=>Ba d.rules h (BZ ht) a
 have h:=d.BR.Ab l (u d.BR (by decide));have n:Am (fun k=>k=kb) wa (wa.setCell (zA kb 0) (zS g2 0 m i)):=(Aa (fun k=>k=kb) wa).setCell (p:=zA kb 0) (fun _=>rfl) _;have r:=d.mp.Ab l fun a=>by obtain⟨C,x,_⟩:=d.mp;exact x.own_ne d.rules a
 refine⟨?_,?_,r.Ab n fun a=>r.Ee h a.symm,fun z B hx=>?_⟩
 ·rw[Ap,<- t];exact h.Dw 0 _
 ·rw[Ap,<- t,Ez];exact Aj s n fun g w a=>Ba s h (by decide) (by rw[<- show g=kb from a];exact w)
 ·have y:=d.ok z B hx;have v:=y.Ab l fun g j o=>u o (by decide)
  have e:=v.Ab n fun g j o a=>AX.GJ (t:=27) o h (by decide) a
  exact⟨by rw[Ap];have:=e.m;omega,e.l,e.le,by rw[Fx e.m];exact e.full,e.may,e.own⟩
def oK (w:Bc) (roots:List Dj) (C:List Ca) (b:Nat) (e:Ending) (w':Bc):Prop :=
 ((∃ acc A c d g f,e= .returned (.tuple #[.agg #[.slice d g f,.slice A (Cz roots C acc).length c],zO])/\Ay FH w' w'.heap.size 2 A (Cz roots C acc)/\KM roots C acc/\(∀ i c,C[i]?= some c->i∉acc->¬Oj (Cz roots C acc) c)) ∨
  (∃ (acc:List Nat) (i:Nat) (c:Ca) (a:BB),e= .returned (.tuple #[.agg #[zN,zN],zI 12])/\KM roots C acc/\C[i]?= some c/\a∈c.Bl/\JK (Cz roots C acc) a b))/\Au w w'
theorem Ng:(Tryz.prog.info? 397).map (·.size)=some 2:=by kernel_rfl
theorem jQ (cg:Option Addr) (bm:Addr) (k ac:Nat) (roots:List Dj) (Z:List Ed) (w:Bc) (E:∀ z∈Z,Cn z.c) (ew:Z.length<=100) (aj:Dt w cg Z) (ey:roots.length+Hg Z<=400) (dd:1<=b) (de:b<=5000) (fb:∀ r∈roots,r.BX.size<=16/\r.Kn.size<=16) (fa:Ay FH w w.heap.size 2 (some bm) roots) :
  Calls Tryz.prog 275 #[.slice (some bm) roots.length ac,.slice cg Z.length k,zI (b:Int)] w (oK w roots (Z.map (·.c)) b):=by
 have ci:=Lh fun W (g:Au w W)=>U4 cg (some bm) k roots.length ac b Z W E ew (aj.AB g) ey dd de
 have dr:=Lh fun W (g:Au w W)=>Vz bm ac roots W (by omega) (fa.AB g)
 have fj:=Lh fun(W:Bc) (g:Au w W) (z:Ed) (d:z∈Z) (kb sb:Nat) (A:Option Addr) (c:Nat) (R:List Dj) (f:BB->Option Lk) (gy:Gi W w.heap.size kb sb A c b R f) (I:R.length<=400) (T:∀ r∈R,r.BX.size<=16/\r.Kn.size<=16) =>
  Vt z.c z.A z.k W gy g.size I T dd de (E z d).su (E z d).set (by have:=(Cm (E z d).set).2.1;omega) ((aj.AB g).s z d)
 have fk:=Lh fun(W:Bc) (g:Au w W) (z:Ed) (d:z∈Z)=>Yz z.c z.A z.k W (by have:=(Cm (E z d).set).2.1;omega) ((aj.AB g).s z d)
 have cr:Hid (∀ acc,KM roots (Z.map (·.c)) acc->(Cz roots (Z.map (·.c)) acc).length<=400):=Lh fun acc d=>by
  have:=OA d;rw[Gs] at this;have T:Hg Z=(Z.map ((fun c:Ca=>c.Bl.length) ∘ fun z=>z.c)).sum:=rfl;omega
 have ed:Hid (∀ acc,∀ r∈Cz roots (Z.map (·.c)) acc,r.BX.size<=16/\r.Kn.size<=16):=Lh fun acc r aj=>by
  rcases Jt aj with d|⟨i,_,c,m,d⟩
  ·exact fb r d
  ·obtain⟨z,ce,rfl⟩:=Bp.1 (Bn m);obtain⟨f,hc,rfl⟩:=Bp.1 d;exact⟨(E z ce).fo f hc,(E z ce).sp⟩
 have ge:=Lh aj;have gp:=Lh E;obtain⟨dn,cc⟩:∃ n,n=roots.length:=⟨_,rfl⟩
 obtain⟨n,be⟩:∃ n,n=Z.length:=⟨_,rfl⟩
 have ea:=Lh cc;have fx:=Lh be;have cj:Hid ((Z.map (·.c)).length=n):=Lh (by simp[be]);rw[<- cc] at ci dr;rw[<- be] at ci;rw[<- cc,<- be];have il:n<=100:=by omega
 obtain⟨h,hC⟩:∃ h,h=Z.map (·.c):=⟨_,rfl⟩
 rw[<- hC] at cr ed cj ⊢;have fn:=Lh hC;have ex:=@run_makeMap Tryz.prog;have K:Hid (AX (w.alloc (.cells #[zN,zN] 397)) w.heap.size 397 #[zN,zN]):=Lh (AX.new w _ _);have x:Hid (Au w (w.alloc (.cells #[zN,zN] 397))):=Lh ((Aa _ w).alloc _);clear E ew aj ey dd de fb fa cc be hC;go_in;go_upto_region 1 with(fail)
 obtain⟨xb,dl⟩:∃ J,J=w.heap.size:=⟨_,rfl⟩
 have ef:=Lh dl;generalize w.alloc (.cells #[zN,zN] 397)=ip at K x ⊢;rw[<- dl] at K ⊢;clear dl;go_upto_region 5 with(first
  |(go_at_call 280;refine(ci.out _ x.out).mono ?_;rintro e iq ⟨rfl,D⟩;replace K:=Lh (K.out.Ab D id);replace x:=Lh (x.out.to D);clear D)
  |(go_at_call 281;refine(dr.out _ x.out).mono ?_;rintro e G ⟨ak,L,rfl,ba,D⟩;have eb:=Lh (Du (base':=w.heap.size) ba x.out.size);replace K:=Lh (K.out.Ab D id);replace x:=Lh (x.out.to D);clear D ba))
 have cb:=ex;clear ex cb;have az:Au G ((G.alloc (.map #[] 0)).alloc (.cells #[.slice ak dn L,zI (b:Int),.map (some G.heap.size)] 412)):=((Aa _ G).alloc _).alloc _;have bl:Hid (Gi ((G.alloc (.map #[] 0)).alloc (.cells #[.slice ak dn L,zI (b:Int),.map (some G.heap.size)] 412)) w.heap.size (G.heap.size+1) G.heap.size ak L b roots fun _=>none):=Lh ⟨by rw[<- ea.out];exact AX.at_ _ _ (by simp),by rw[<- ea.out];exact Aj eb.out az fun _ _ d=>d,(GI.new G).AB ((Aa _ _).alloc _),fun y J d=>(by cases d)⟩;replace K:=Lh (K.out.Ab az id);have cm:=x;replace x:=Lh (x.out.to az);obtain⟨sb,dk⟩:∃ J,J=G.heap.size:=⟨_,rfl⟩
 obtain⟨kb,ca⟩:∃ J,J=G.heap.size+1:=⟨_,rfl⟩
 have gl:Hid (w.heap.size<=sb):=Lh (by rw[dk];exact cm.out.size);have ft:Hid (w.heap.size<=kb):=Lh (by rw[ca];have:=cm.out.size;omega);generalize (G.alloc (.map #[] 0)).alloc (.cells #[.slice ak dn L,zI (b:Int),.map (some G.heap.size)] 412)=bf at bl K x az ⊢;rw[<- ca,<- dk] at bl;rw[<- ca];clear dk ca az eb cm;obtain⟨hv,hd,hs,ce,hu⟩:=info_parts NL;obtain⟨hw,he,ho,hp,hr⟩:=info_parts Nf;obtain⟨hz,hf,hl,hm,hn⟩:=info_parts K9;obtain⟨fh,cb,db,eu⟩:=run_makeSlice_full (P:=Tryz.prog) bf bf.heap.size 49 4 hv (.bool false) 1 Tryz.underlying49 hd hs ce .i64 .i64 n (by omega) (by rw[hu];omega) (by unfold maxLen;omega) (AY _);have bz:Au bf fh:=(T0 bf).grown eu fun k e=>by cases e
 obtain⟨ib,dg⟩:∃ J,J=bf.heap.size:=⟨_,rfl⟩
 rw[<- dg] at cb db;have gj:Hid (Vk w fh xb kb sb ib ak L b roots (fun _=>none) n [] (zN)):=Lh ⟨x.out.to bz,K.out.Ab bz id,by rw[ef.out];exact AY _,bl.out.AB bz,ft.out,gl.out,Du (by
   have hb:((List.range n).map fun i=>Value.bool (decide (i∈([]:List Nat))))=(madeCells (Value.bool false).cells (n*1)).toList:=by
    rw[Fy];refine Eq.trans ?_ (toList_madeCells_one (Value.bool false) n).symm;apply List.ext_getElem
    ·simp
    ·intro i I T;simp
   rw[hb];exact db) (by rw[dg];exact x.out.size),World.ownsRow_nil _ _ _ _⟩
 clear db eu bz dg K x bl ef;go_wp2_with fail;clear cb;have du:Hid (∀ acc,KM roots h acc->acc.length<=n):=Lh fun acc d=>by
  have:=Nq (C:=List.range n) d.nd fun i df=>FQ.2 (by rw[<- cj.out];exact d.lt i df)
  simpa using this
 go_loopg [11,12] (n+2) fun gk vo gq wr=>∃ (acc:List Nat) (A:Option Addr) (c:Nat) (f:BB->Option Lk) (X:Int),gq=zI X/\Hid (Vk w wr xb kb sb ib A c b (Cz roots h acc) f n acc vo)/\Hid (KM roots h acc)/\((X = -1/\gk=n+2)∨(∃ u:Nat,X=(u:Int)/\u+gk=n+1/\u<=acc.length/\(u=acc.length->∀ i c,h[i]?= some c->i∉acc->¬Oj (Cz roots h acc) c)))
 case atStart=>exact⟨[],ak,L,_,-1,rfl,Lh (by have d:Cz roots h []=roots:=(by simp[Cz]);rw[d];exact gj.out),Lh KM.nil,.inl ⟨rfl,rfl⟩⟩
 case round =>
  obtain⟨acc,A,c,f,X,rfl,ir,H,di⟩:=hrel;obtain⟨v,bd⟩:∃ v,v=acc.length:=⟨_,rfl⟩
  have fl:=Lh bd;have ii:v<=n:=by rw[bd];exact du.out acc H.out
  have ee:Hid (wr.ownsRow w.heap.size 3 1 u11 v (acc.map L9)):=Lh (by rw[bd];exact ir.out.ord);obtain⟨cf,cw,hj⟩:=BD ee.out;subst hj;obtain⟨cy,es⟩:∃ cy,cy=gk:=⟨_,rfl⟩
  have dw:=Lh es;rw[<- bd] at di;have cq:=Lh di;clear bd di es;by_cases hq:X=(v:Int)
  ·have hh:(X != (v:Int))=false:=by simp[hq]
   have fq:Hid (∀ i c,h[i]?= some c->i∉acc->¬Oj (Cz roots h acc) c):=Lh (by
    rcases cq.out with⟨d,_⟩|⟨u,I,T,gx,ej⟩
    ·omega
    ·exact ej (by omega))
   clear hq;obtain⟨p,ai⟩:∃ p,p=(Cz roots h acc).length:=⟨_,rfl⟩
   have ag:=Lh ai;have dm:wr.cell? (zA kb 0)=some (.slice A p c):=by rw[ai];exact ir.out.look.BR.cell 0
   clear ai;go_wp2_with (refine Bo rfl (.tmp 6) (.tmp 88) rfl rfl (cs':=#[.slice cf v cw,.slice A p c]) rfl ir.out.x Ng rfl (by simp[Value.oneCell']) ?_;intro fi da bv dj;clear dj);refine bodyPost_ret (v:=.tuple #[.agg #[.slice cf v cw,.slice A p c],zO]) (CB (p:=6) (q:=7) Tryz.results275 _ rfl rfl da Tryz.underlying397 rfl Ng) rfl ?_;refine⟨.inl ⟨acc,A,c,cf,v,cw,by rw[<- ag.out],?_,H.out,fq.out⟩,ir.out.k.AJ bv fun k D e=>by have:=ir.out.xg;omega⟩;have ba:=ir.out.look.rules;exact Ay.Hu (V:=FH) (fun _=>rfl) (Aj ba bv fun B F e=>Ba ba ir.out.x (by decide) (by rw[<- show B=xb from e];exact F))
  ·have hh:(X != (v:Int))=true:=by simp[hq]
   have fz:Hid (n+1-v<cy):=Lh (by
    have:=dw.out;rcases cq.out with⟨_,d⟩|⟨u,I,T,gx,ej⟩<;>omega)
   clear hq;go_wp2;go_loopg [11,41] n fun gv vo i ie=>∃ (a:Nat) (acc:List Nat) (A:Option Addr) (c:Nat) (f:BB->Option Lk),a+gv=n/\i=zI a/\Hid (Vk w ie xb kb sb ib A c b (Cz roots h acc) f n acc vo)/\Hid (KM roots h acc)/\Hid (v<=acc.length)/\Hid (v=acc.length->∀ i c,i<a->h[i]?= some c->i∉acc->¬Oj (Cz roots h acc) c)
   case atStart=>exact⟨0,acc,A,c,f,by omega,rfl,ir,H,Lh (by rw[fl.out];exact AY _),Lh fun _ i c d=>by omega⟩
   case round =>
    clear ir H ee cq;obtain⟨a,l,M,N,cx,ij,rfl,ir,H,aw,co⟩:=hrel;by_cases dh:a<n
    ·have hy:(a:Int)<(n:Int):=by omega
     have bx:a<Z.length:=by have:=fx.out;omega
     obtain⟨Q,U,rfl,ae,m⟩:=ge.out.cells bx;obtain⟨z,E⟩:∃ z,z=Z[a]:=⟨_,rfl⟩
     have ff:z∈Z:=by rw[E];exact Br bx
     have bj:Hid (h[a]?= some z.c):=Lh (by rw[fn.out,Ch,Ah bx,<- E];rfl);rw[<- E] at m;have al:Hid (∀ W,Au w W->Zd W Q (U+a*7) z):=Lh fun W g=>⟨(g.cell (p:=zA Q (U+a*7)) ae id).trans (m 0 (by omega)),(g.cell (p:=zA Q (U+a*7+1)) ae id).trans (m 1 (by omega)),(g.cell (p:=zA Q (U+a*7+2)) ae id).trans (m 2 (by omega)),(g.cell (p:=zA Q (U+a*7+3)) ae id).trans (m 3 (by omega)),(g.cell (p:=zA Q (U+a*7+4)) ae id).trans (m 4 (by omega)),(g.cell (p:=zA Q (U+a*7+5)) ae id).trans (m 5 (by omega)),(g.cell (p:=zA Q (U+a*7+6)) ae id).trans (m 6 (by omega))⟩
     obtain⟨L,bn,ac,bo,bp,bq,br⟩:=al.out wr ir.out.k;clear E m ae bx;have ah:wr.cell? (zA ib a)=some (.bool (decide (a∈l))):=(ir.out.ins.cellAt a (by omega)).trans (by simp[dh]);have cu:=Lh ff;clear ff;by_cases ap:a∈l
     ·have bk:=Lh ap;have ah:wr.cell? (zA ib a)=some (.bool true):=by rw[ah];simp[ap]
      clear ap;go_wp2;go_roundg (gk-1)
      case measure=>omega
      case rel=>exact⟨a+1,l,M,N,cx,by omega,by go_num,ir,H,aw,Lh fun d i c df m ar=>by
       rcases Co i a with I|I
       ·exact co.out d i c I m ar
       ·obtain rfl:i=a:=by omega
        exact Bv bk.out ar⟩
     ·have bk:=Lh ap;have ah:wr.cell? (zA ib a)=some (.bool false):=by rw[ah];simp[ap]
      have eq:Cu z.c z.A z.k=#[zI z.c.kind,zU z.c.Aq,.string z.c.Ad,.slice z.A z.c.Bl.length z.k,zI z.c.BX,zI z.c.till,zI z.c.AO]:=rfl;have ch:=Lh (fj.out wr ir.out.k z cu.out kb sb M N _ cx ir.out.look (cr.out _ H.out) (ed.out _));have ds:=Lh fun W g=>fk.out W g z cu.out
      rw[eq] at ch ds;clear ap eq;go_upto_region 15 with(fail)
      refine ch.out.mono ?_;rintro e Y ⟨t,ig,bs,rfl,cd,el,eo⟩;have o:=Lh (ir.out.map el eo);have cp:=Lh cd;clear cd el eo ch L bn ac bo bp bq br ah;have cd:=cp.out;go_upto_region 15 with(fail)
      rcases cd with⟨rfl,fe,er⟩|⟨rfl,s,fc,ez⟩
      ·have gn:=Lh fe;have fp:=Lh er;clear fe er cp;rcases t with _|_
       ·have fy:Hid (¬Oj (Cz roots h l) z.c):=Lh fun d=>by
         obtain⟨y,I,T⟩:=fp.out rfl;exact T (d y I)
        go_wp2;go_roundg (gk-1)
        case measure=>omega
        case rel=>exact⟨a+1,l,M,N,bs,by omega,by go_num,o,H,aw,Lh fun d i c df m ar=>by
         rcases Co i a with I|I
         ·exact co.out d i c I m ar
         ·obtain rfl:i=a:=by omega
          rw[bj.out] at m;cases m;exact fy.out⟩
       ·have dt:Hid (KM roots h (l++[a])):=Lh (H.out.snoc bj.out bk.out fun y hi=>gn.out rfl y hi);have ec:Hid (Cz roots h (l++[a])=Cz roots h l++Gr z.c):=Lh (Sr bj.out);have fu:=Lh (cr.out _ dt.out);have fv:Hid ((Cz roots h l).length+z.c.Bl.length<=400):=Lh (by have:=fu.out;rw[ec.out,Ap] at this;simpa [Gr] using this);obtain⟨ao,dc⟩:∃ J,J=l.length:=⟨_,rfl⟩
        have gi:Hid (1<=z.c.Bl.length):=Lh (Cm (gp.out z cu.out).set).1;have fm:=Lh dc;have ih:ao<=100:=by have:=du.out _ H.out;omega
        have cs:Hid (Y.ownsRow w.heap.size 3 1 u11 ao (l.map L9)):=Lh (by rw[dc];exact o.out.ord);obtain⟨dq,eh,hk⟩:=BD cs.out;subst hk;clear dc;have ah:Y.cell? (zA ib a)=some (.bool false):=(o.out.ins.cellAt a (by omega)).trans (by simp[dh,bk.out]);have gu:=o.out.ins.frozenAt a;go_upto_region 19 with(fail)
        have bb:Am (fun k=>k=ib) Y (Y.setCell (zA ib a) (.bool true)):=(Aa (fun k=>k=ib) Y).setCell (p:=zA ib a) (fun _=>rfl) _;obtain⟨gt,bw⟩:=Iq o.out.ins (g:=ib) rfl;have fd:∀ k,k=ib->∃ ei,AX Y k 4 ei:=fun k e=>by subst e;exact⟨gt,bw⟩
        have dy:=Lh (o.out.look.beside bb fd ⟨by decide,by decide,by decide⟩);have ct:=Lh (o.out.x.Ab bb fun e=>AX.GJ bw o.out.x (by decide) (show xb=ib from e).symm);have am:=Lh (Aj cs.out bb fun B F e=>Ba cs.out bw (by decide) (by rw[<- show B=ib from e];exact F));have ck:Hid ((Y.setCell (zA ib a) (.bool true)).ownsRow w.heap.size 4 1 (zS ib 0 n n) n ((List.range n).map fun k=>Value.bool (decide (k∈l++[a])))):=Lh (by have:=(o.out.ins.stored a (.bool true)).1;rw[iH dh] at this;exact this);have cn:Hid (Au w (Y.setCell (zA ib a) (.bool true))):=Lh (o.out.k.AJ bb fun k D e=>by have:=BQ o.out.ins (g:=ib) rfl;omega);generalize Y.setCell (zA ib a) (.bool true)=bg at dy ct am ck cn ⊢;clear ah gu bb bw fd;go_upto_region 20 with(at_builtin;go_must (refine wpList_append_lies _ rfl (.tmp 65) (.tmp 67) 205 rfl w.heap.size 3 hw _ 1 8 Tryz.underlying205 he ho hp hr rfl (by omega) (.slice dq ao eh) ao _ rfl (am.out.alloc _) (zA bg.heap.size 0) 1 1 [zI a] rfl rfl (World.news_of_block (cs:=#[zI a]) (t:=3) (fr:=(0,0)) (heap_alloc_new bg _)) (by simp[Value.oneCell']) (by omega) (by unfold maxLen;omega) (by omega) (by have:=cn.out.size;simp;omega) (bg.heap.size+1) (by simp) ?_);intro gw gs bh eg ev gz hg;have bc:Am (fun k=>(Value.slice dq ao eh).ownBlock=some k) bg bh:=((Aa _ bg).alloc _).grown ev fun k d _=>d;have dz:=Lh (dy.out.beside bc (fun k e=>Iq am.out e) ⟨by decide,by decide,by decide⟩);have go:=Lh (ct.out.Ab bc fun e=>Ba am.out ct.out (by decide) e);have fs:=Lh (Aj ck.out bc fun B F e=>Ex ck.out am.out (by decide) F e);have dx:=Lh (cn.out.AJ bc fun k D e=>Bv (BQ am.out e) (by omega));have gb:=Lh eg;clear bc eg ev gz hg)
        obtain⟨p,ai⟩:∃ J,J=(Cz roots h l).length:=⟨_,rfl⟩
        have ag:=Lh ai;have ik:p+z.c.Bl.length<=400:=by have:=fv.out;omega
        have dm:bh.cell? (zA kb 0)=some (.slice M p N):=by rw[ai];exact dz.out.BR.cell 0
        obtain⟨L,bn,ac,bo,bp,bq,br⟩:=al.out bh dx.out;clear ai;refine EQ 13 (S:=fun W=>W.cell? (zA kb 0)=some (.slice M p N)/\Zd W Q (U+a*7) z) (by kernel_rfl) ⟨dm,L,bn,ac,bo,bp,bq,br⟩ fun C=>?_
        have q:=Lh (dz.out.AB (Aa _ bh).drew);have ay:=Lh go.out.drew;have av:=Lh fs.out.drew;have ax:=Lh gb.out.drew;have aa:=Lh dx.out.drew;generalize bh.drew=fi at q ay av ax aa C ⊢;clear dm L bn ac bo bp bq br;refine zt 0 69 (v:=?_) ⟨_,rfl,rfl,by rfl,?_⟩ C ?_;rotate_left
        ·(intro w j;(try dsimp only at j);obtain⟨_,_,_,_,_,_,_,_⟩:=j;go_simp;try with_reducible rfl)
        simp only[Act.put,AZ,Bq,Bi];refine zt 1 70 (v:=?_) ⟨_,rfl,rfl,by rfl,?_⟩ C ?_;rotate_left
        ·(intro w j;(try dsimp only at j);obtain⟨_,_,_,_,_,_,_,_⟩:=j;go_simp;try with_reducible rfl)
        simp only[Act.put,AZ,Bq,Bi];refine zt 2 71 (v:=?_) ⟨_,rfl,rfl,by rfl,?_⟩ C ?_;rotate_left
        ·(intro w j;(try dsimp only at j);obtain⟨_,_,_,_,_,_,_,_⟩:=j;go_simp;try with_reducible rfl)
        simp only[Act.put,AZ,Bq,Bi];refine zt 3 72 (v:=?_) ⟨_,rfl,rfl,by rfl,?_⟩ C ?_;rotate_left
        ·(intro w j;(try dsimp only at j);obtain⟨_,_,_,_,_,_,_,_⟩:=j;go_simp;try with_reducible rfl)
        simp only[Act.put,AZ,Bq,Bi];refine zt 4 73 (v:=?_) ⟨_,rfl,rfl,by rfl,?_⟩ C ?_;rotate_left
        ·(intro w j;(try dsimp only at j);obtain⟨_,_,_,_,_,_,_,_⟩:=j;go_simp;try with_reducible rfl)
        simp only[Act.put,AZ,Bq,Bi];refine zt 5 74 (v:=?_) ⟨_,rfl,rfl,by rfl,?_⟩ C ?_;rotate_left
        ·(intro w j;(try dsimp only at j);obtain⟨_,_,_,_,_,_,_,_⟩:=j;go_simp;try with_reducible rfl)
        simp only[Act.put,AZ,Bq,Bi];refine zt 6 75 (v:=?_) ⟨_,rfl,rfl,by rfl,?_⟩ C ?_;rotate_left
        ·(intro w j;(try dsimp only at j);obtain⟨_,_,_,_,_,_,_,_⟩:=j;go_simp;try with_reducible rfl)
        simp only[Act.put,AZ,Bq,Bi];refine zt 7 76 (v:=?_) ⟨_,rfl,rfl,by rfl,?_⟩ C ?_;rotate_left
        ·(intro w j;(try dsimp only at j);obtain⟨_,_,_,_,_,_,_,_⟩:=j;go_simp;try with_reducible rfl)
        simp only[Act.put,AZ,Bq,Bi];refine zt 8 77 (v:=?_) ⟨_,rfl,rfl,by rfl,?_⟩ C ?_;rotate_left
        ·(intro w j;(try dsimp only at j);obtain⟨_,_,_,_,_,_,_,_⟩:=j;go_simp;try with_reducible rfl)
        simp only[Act.put,AZ,Bq,Bi];refine zs 9 rfl fun O g=>?_
        go_simp;refine(ds.out _ aa.out).mono ?_;rintro e au ⟨dp,gr,rfl,en,aq⟩;replace q:=Lh (q.out.AB aq);replace ay:=Lh (ay.out.Ab aq id);replace av:=Lh (Aj av.out aq fun _ _ d=>d);replace ax:=Lh (Aj ax.out aq fun _ _ d=>d);have gc:=Lh en;replace aa:=Lh (aa.out.to aq);clear en aq;go_wp2;refine g.out _ _ (by(try dsimp only);exact⟨by rw[ag.out];exact q.out.BR.cell 0,al.out _ aa.out⟩) fun C=>?_
        clear g O;have gf:Hid (Ay FH au au.heap.size 2 dp (Gr z.c)):=Lh (Ay.Hu (V:=FH) (fun _=>rfl) (by rw[show(Gr z.c).length=z.c.Bl.length by simp[Gr]];exact gc.out));have gh:Hid (au.ownsRow w.heap.size 381 2 (.slice M p N) p (BN FH (Cz roots h l))):=Lh (by rw[ag.out];exact q.out.rules);refine zs 10 rfl fun O g=>?_
        rw[AQ (by rfl)];refine J3 (V:=FH) (.tmp 73) (.tmp 78) 334 rfl w.heap.size 381 hz _ 2 32 Tryz.underlying334 hf hl hm hn rfl (by omega) (fun _=>rfl) R4 (.slice M p N) p _ rfl gh.out au.heap.size dp z.c.Bl.length gr (Gr z.c) rfl (by simp[Gr]) gf.out (by unfold maxLen;omega) (by omega) aa.out.size ?_;intro ic af cv et;rw[Ga 79 (by rfl)];dsimp only[Act.put,AZ,Bq,Bi];have bt:Am (fun k=>(Value.slice M (Cz roots h l).length N).ownBlock=some k) au af:=(Aa _ au).grown et fun k d _=>by rw[<- ag.out];exact d
        obtain⟨ad,ab,rfl⟩:∃ ad ab,ic=zS ad 0 (p+z.c.Bl.length) ab:=(by obtain⟨B,c,d,_⟩:=World.ownsRow.form cv (by have:=(gi.out);omega);exact⟨B,c,d⟩)
        have ga:=Lh cv;have an:=Lh bt;have dv:=Lh (q.out.BR.Ab bt fun e=>Ba q.out.rules q.out.BR (by decide) e);have bi:Hid (af.cell? (zA kb 0)=some (.slice M p N)):=Lh (by rw[ag.out];exact dv.out.cell 0);have cl:Hid (Au w af):=Lh (aa.out.AJ bt fun k D e=>Bv (BQ q.out.rules e) (by omega));clear cv et bt;refine g.out _ _ ⟨bi.out,al.out _ cl.out⟩ fun C=>?_
        clear g O;refine zs 11 rfl fun O g=>?_
        go_simp;refine g.out _ _ ⟨bi.out,al.out _ cl.out⟩ fun C=>?_
        clear g O;refine zs 12 rfl fun O g=>?_
        go_simp;refine g.out _ _ ⟨bi.out,al.out _ cl.out⟩ fun C=>?_
        clear g O;refine zl fun O g=>?_
        have im:=bi.out;have io:=dv.out.frozen 0;go_simp;refine g.out _ _ ?_;clear g O;refine zd ?_;go_wp2_with fail;have fw:Hid (Gi (af.setCell (zA kb 0) (zS ad 0 (p+z.c.Bl.length) ab)) w.heap.size kb sb (some (zA ad 0)) ab b (Cz roots h (l++[a])) bs):=Lh (by rw[ec.out];exact q.out.grown an.out (by rw[ag.out];simp[Gr]) ga.out);have bu:Am (fun k=>k=kb) af (af.setCell (zA kb 0) (zS ad 0 (p+z.c.Bl.length) ab)):=(Aa (fun k=>k=kb) af).setCell (p:=zA kb 0) (fun _=>rfl) _;have cz:=q.out.BR.Ab an.out fun e=>Ba q.out.rules q.out.BR (by decide) e
        have ep:=ay.out.Ab an.out fun e=>Ba q.out.rules ay.out (by decide) e
        have ek:=Aj av.out an.out fun B F e=>Ex av.out q.out.rules (by decide) F e
        have em:=Aj ax.out an.out fun B F e=>Ex ax.out q.out.rules (by decide) F e
        have gg:Hid (Vk w (af.setCell (zA kb 0) (zS ad 0 (p+z.c.Bl.length) ab)) xb kb sb ib (some (zA ad 0)) ab b (Cz roots h (l++[a])) bs n (l++[a]) (zS gw 0 (ao+1) gs)):=Lh ⟨(aa.out.AJ an.out fun k D e=>Bv (BQ q.out.rules e) (by omega)).AJ bu fun k D e=>by have:=o.out.kg;omega,
         ep.Ab bu fun e=>AX.GJ ep cz (by decide) e,o.out.xg,fw.out,o.out.kg,o.out.sg,
         Aj ek bu fun B F e=>Ba ek cz (by decide) (by rw[<- show B=kb from e];exact F),
         by
          have T:=Aj em bu fun B F e=>Ba em cz (by decide) (by rw[<- show B=kb from e];exact F)
          rw[Ap,<- fm.out,Bw];exact T⟩
        go_roundg (gk-1)
        case measure=>omega
        case rel=>exact⟨a+1,l++[a],some (zA ad 0),ab,bs,by omega,by go_num,gg,dt,Lh (by rw[Ap];have:=aw.out;omega),Lh fun d=>by rw[Ap] at d;have:=aw.out;simp at d;omega⟩
      ·have gd:=Lh ez;have gm:=Lh fc;clear ez fc cp;go_wp2_with (refine Bo rfl (.tmp 6) (.tmp 59) rfl rfl (cs':=#[zN,zN]) rfl o.out.x Ng rfl (by simp[Value.oneCell']) ?_;intro fi da bv dj;clear dj);refine bodyPost_ret (v:=.tuple #[.agg #[zN,zN],zI 12]) (CB (p:=6) (q:=7) Tryz.results275 _ rfl rfl da Tryz.underlying397 rfl Ng) rfl ?_;exact⟨.inr ⟨l,a,z.c,s,rfl,H.out,bj.out,gm.out,gd.out⟩,o.out.k.AJ bv fun k D e=>by have:=o.out.xg;omega⟩
    ·have hy:¬(a:Int)<(n:Int):=by omega
     obtain rfl:a=n:=by omega
     go_wp2;go_roundg (a+1-v)
     case measure=>have:=fz.out;have:=dw.out;omega
     case rel=>exact⟨l,M,N,cx,v,rfl,ir,H,.inr ⟨v,rfl,by omega,aw.out,fun d i c m ar=>co.out d i c (by rw[<- cj.out];exact(AC.1 m).1) m ar⟩⟩
end

section
variable {w W W':Bc} {R:List Dj}
theorem TH (v:BB) (g:Nat) (A:Option Addr) (c:Nat) (cs:List BB) (w:Bc) (d:cs.length<=1000000) (a:Ay Value.string w w.heap.size 1 A cs) (f:Cl w g 0 (.slice A cs.length c)) :
  Calls Tryz.prog 290 #[.string v,zP g] w (Rt (.bool (Jy v cs)) fun w'=>w=w'):=by
 have b:=Lh (iC A c _ cs v w d a);clear a;go_in;go_wp2_with (go_at_call 145;refine b.out.mono ?_;rintro e h ⟨rfl,rfl⟩);go_ret;exact⟨rfl,rfl⟩
def LD (cs L:List BB):Option Nat:=L.findIdx? fun a=>Jy a cs
theorem Wj (cs L:List BB):decide ((0:Int)<=Im (LD cs L))=L.any (fun x=>Jy x cs):=by
 unfold LD;rcases b:L.findIdx? (fun x=>Jy x cs) with _|e
 ·have a:L.any (fun x=>Jy x cs)=false:=by
   rw[List.any_eq_false];intro x hx;have:=Ct.1 b x hx;simp[this]
  rw[a];rfl
 ·obtain⟨c,a,_⟩:=Cj.1 b;have d:L.any (fun x=>Jy x cs)=true:=F6.2 ⟨L[e],Br c,a⟩;rw[d];simp[Im]
theorem aD (g:Nat) (l A:Option Addr) (z c:Nat) (L cs:List BB) (w:Bc) (M:L.length<=1000000) (E:cs.length<=1000000) (u:Ay Value.string w w.heap.size 1 l L) (t:Ay Value.string w w.heap.size 1 A cs) (p:Cl w g 0 (.slice A cs.length c)) :
  Calls Tryz.prog 294 #[.slice l L.length z,.func (.func 290) #[] #[zP g]] w (Rt (zI (Im (LD cs L))) fun w'=>w=w'):=by
 have x:=Lh u;have v:=Lh fun H=>TH H g A c cs w E t p
 clear u t p;go_in;go_wp2;go_loopg [8] L.length fun gk b wr=>∃ a:Nat,a+gk=L.length/\b=zI a/\w=wr/\∀ b d,b<a->L[b]?= some d->Jy d cs=false
 case atStart=>exact⟨0,Bz _,rfl,rfl,fun b d h=>by omega⟩
 case round =>
  obtain⟨a,q,rfl,rfl,s⟩:=hrel;have j:=Lh s;clear s;by_cases r:a<L.length
  ·obtain⟨y,G,rfl,N,k⟩:=Ay.BV (V:=Value.string) (fun _=>rfl) x.out r;obtain⟨d,e⟩:∃ d,d=L[a]:=⟨_,rfl⟩
   have o:Hid (L[a]?= some d):=Lh (by rw[e];exact Ah r);rw[<- e] at k;have J:Cl w y (G+a) (.string d):=k;have f:=v.out d;have O:(0:Int)<=(a:Int):=by omega
   have F:(a:Int)<(L.length:Int):=by omega
   clear e k;rcases hq:Jy d cs with _|_
   all_goals
    rw[hq] at f;have n:=Lh hq;have m:=Lh q;have f:=Lh f;clear hq q;go_wp2_with fail;refine f.out.mono ?_;rintro K P ⟨rfl,rfl⟩;clear f;go_wp2_with fail
   ·go_roundg (gk-1)
    case measure=>have:=m.out;omega
    case rel =>
     refine⟨a+1,by have:=m.out;omega,by go_num,rfl,fun b I h e=>?_⟩;by_cases C:b=a
     ·subst C;have i:=o.out;rw[e] at i;injection i with i;rw[i];exact n.out
     ·exact j.out b I (by omega) e
   ·go_ret;refine⟨?_,rfl⟩;have:LD cs L=some a:=by
     unfold LD;rw[Cj];obtain⟨D,B⟩:=AC.1 o.out;refine⟨D,by rw[B];exact n.out,fun b h=>?_⟩;have:=j.out b _ h (Ah (by omega));simp[this]
    rw[this];rfl
  ·have F:¬(a:Int)<(L.length:Int):=by omega
   go_wp2;go_ret;refine⟨?_,rfl⟩;have:LD cs L=none:=by
    unfold LD;rw[Ct];intro Q hx;obtain⟨b,h,rfl⟩:=CQ hx;exact j.out b _ (by omega) (Ah h)
   rw[this];rfl
theorem Q9 (g:Nat) (a A:Option Addr) (e c:Nat) (L cs:List BB) (w:Bc) (j:L.length<=1000000) (k:cs.length<=1000000) (i:Ay Value.string w w.heap.size 1 a L) (h:Ay Value.string w w.heap.size 1 A cs) (f:Cl w g 0 (.slice A cs.length c)) :
  Calls Tryz.prog 289 #[.slice a L.length e,.func (.func 290) #[] #[zP g]] w (Rt (.bool (L.any fun x=>Jy x cs)) fun w'=>w=w'):=by
 have b:=Lh (aD g a A e c L cs w j k i h f);have d:=Lh (Wj cs L);clear i h f;go_in;go_wp2_with fail;refine b.out.mono ?_;rintro l n ⟨rfl,rfl⟩;clear b;generalize Im (LD cs L)=m at d;go_wp2;go_ret;exact⟨by rw[<- d.out];rfl,rfl⟩
theorem Tn (b:Nat) (w:Bc) (d:1<=b) (e:b<=5000):Calls Tryz.prog 284 #[zI (b:Int)] w (Rt (.bool true) fun w'=>w=w'):=by
 have a:decide ((1:Int)<=(b:Int))=true:=by rw[decide_eq_true_iff];omega
 have c:decide ((b:Int)<=5000)=true:=by rw[decide_eq_true_iff];omega
 go_in;go_wp2;go_ret;exact⟨rfl,rfl⟩
end

section
variable {w W W':Bc} {R:List Dj}
def SQ (R:List Dj) (s cs:List BB) (b:Nat) (c:Int):Prop :=
 (c=1/\∀ a∈s,∃ d∈cs,Fv R a d)∨(c=0/\∃ a∈s,∀ d∈cs,¬Fv R a d)∨(c=2/\∃ a∈s,JK R a b)
theorem ZX (A N g:Option Addr) (c bh j b:Nat) (s cs:List BB) (w:Bc) (ac:R.length<=400) (ai:∀ r∈R,r.BX.size<=16/\r.Kn.size<=16) (I:∀ x∈s,CX x=true) (be:s.length<=1000) (ba:cs.length<=1000) (aa:1<=b) (H:b<=5000)
  (af:Ay FH w w.heap.size 2 A R) (ah:Ay Value.string w w.heap.size 1 N s) (ag:Ay Value.string w w.heap.size 1 g cs) :
  Calls Tryz.prog 285 #[.slice A R.length c,.slice N s.length bh,.slice g cs.length j,zI (b:Int)] w fun e w'=>(∃ m,e= .returned (zI m)/\SQ R s cs b m)/\Au w w':=by
 have Q:Hid (Au w (w.alloc (.cells #[.slice g cs.length j] 29))):=Lh ((Aa _ w).alloc _);have C:Hid (AX (w.alloc (.cells #[.slice g cs.length j] 29)) w.heap.size 29 #[.slice g cs.length j]):=Lh (AX.new w _ _);have al:=Lh fun W x (bt:Au w W) (hx:CX x=true)=>kN A c b W ac ai hx aa H (af.AB bt)
 have am:Hid (∀ W n (l:Option Addr) (E a:Nat) (k:List BB),k.length=a->a<=5000->Ay Value.string W W.heap.size 1 l k->Au w W->Cl W n 0 (.slice g cs.length j)->Calls Tryz.prog 289 #[.slice l a E,.func (.func 290) #[] #[zP n]] W (Rt (.bool (k.any fun x=>Jy x cs)) fun w'=>W=w')):=Lh fun W n (l:Option Addr) (E a:Nat) (k:List BB) (p:k.length=a) (bn:a<=5000) (ax:Ay Value.string W W.heap.size 1 l k) (bt:Au w W) (bb:Cl W n 0 (.slice g cs.length j))=>by subst p;exact Q9 n l g E j k cs W (by omega) (by omega) ax (ag.AB bt) bb
 have aq:=Lh ah;have an:=Lh H;obtain⟨a,p⟩:∃ a,a=s.length:=⟨_,rfl⟩
 have U:=Lh p;have bq:(a:Int)<=1000:=by omega
 rw[<- p];clear af ah ag ac ai p aa H be ba;go_in;go_upto_region 1 with(fail)
 obtain⟨ak,aj⟩:∃ x,x=w.heap.size:=⟨_,rfl⟩
 generalize w.alloc (.cells #[.slice g cs.length j] 29)=bs at C Q ⊢;rw[<- aj] at C ⊢;clear aj;go_wp2;go_loopg [9,16] a fun gk m i wr=>∃ d:Nat,d+gk=a/\i=zI d/\((m=zI 1/\Hid (∀ x∈s.take d,∃ f∈cs,Fv R x f))∨(m=zO/\Hid (∃ x∈s,∀ f∈cs,¬Fv R x f)))/\Hid (Au w wr)/\Hid (AX wr ak 29 #[.slice g cs.length j])
 case atStart=>exact⟨0,by omega,rfl,.inl ⟨rfl,Lh fun f h=>by simp at h⟩,Q,C⟩
 case round =>
  obtain⟨d,bo,rfl,J,bt,aw⟩:=hrel;by_cases bp:d<a
  ·have bg:(d:Int)<(a:Int):=by omega
   have u:d<s.length:=by have:=U.out;omega
   obtain⟨bl,br,rfl,az,ab⟩:=Ay.BV (V:=Value.string) (fun _=>rfl) (aq.out.AB bt.out) u;obtain⟨f,v⟩:∃ f,f=s[d]:=⟨_,rfl⟩
   rw[<- v] at ab;have B:Hid (f∈s):=Lh (by rw[v];exact Br u);have au:Hid (s.take (d+1)=s.take d++[f]):=Lh (by rw[AP u,v]);clear v az u;have O:=Lh (al.out wr f bt.out (I f B.out));have X:=Lh J;clear J;go_upto_region 6 with(fail)
   refine O.out.mono ?_;rintro e L ⟨M,bj,av,bm,D,rfl,Z,Y,bd,G⟩;have ao:=Lh Z;have S:=Lh Y;have t:=Lh (bt.out.to G);have z:=Lh (aw.out.Ab G id);clear G Z Y ab O;rcases bd with⟨rfl,hF,bc⟩|⟨rfl,-,-,-,ae⟩
   ·have P:=Lh hF;have ar:Hid (Ay Value.string L L.heap.size 1 M D):=Lh (Ay.Ea (V:=Value.string) (fun _=>rfl) (by have:=ao.out;rw[<- S.out] at this;exact this));have y:=Lh (am.out L ak M av bj D S.out (by have:=an.out;omega) ar.out t.out (z.out.cell 0));clear hF bc;generalize ad:D.any (fun x=>Jy x cs)=bi at y;have T:=Lh ad;clear ad;rcases bi with _|_
    ·go_wp2_with (go_at_call 289;refine y.out.mono ?_;rintro e bk ⟨rfl,rfl⟩);go_roundg (gk-1)
     case measure=>omega
     case rel =>
      refine⟨d+1,by omega,by go_num,.inr ⟨rfl,Lh ⟨f,B.out,fun q K ay=>?_⟩⟩,t,z⟩;have o:=List.any_eq_false.1 T.out q ((P.out.2 q).2 ay);exact o (JU.2 K)
    ·go_wp2_with (go_at_call 289;refine y.out.mono ?_;rintro e bk ⟨rfl,rfl⟩);go_roundg (gk-1)
     case measure=>omega
     case rel =>
      refine⟨d+1,by omega,by go_num,?_,t,z⟩;rcases X.out with⟨o,F⟩|⟨o,F⟩
      ·refine .inl ⟨by rw[o],Lh fun x hx=>?_⟩;rw[au.out] at hx;rcases Bd.1 hx with h|h
       ·exact F.out x h
       ·rw[Ai.1 h];obtain⟨q,K,I⟩:=F6.1 T.out;exact⟨q,JU.1 I,(P.out.2 q).1 K⟩
      ·exact .inr ⟨by rw[o],F⟩
   ·have ap:=Lh ae;clear ae X;go_wp2;go_ret;exact⟨⟨2,rfl,.inr (.inr ⟨rfl,f,B.out,ap.out⟩)⟩,t.out⟩
  ·have bg:¬(d:Int)<(a:Int):=by omega
   obtain rfl:d=a:=by omega
   rcases J with⟨rfl,h⟩|⟨rfl,h⟩
   ·go_wp2;go_ret;refine⟨⟨1,rfl,.inl ⟨rfl,fun x hx=>h.out x ?_⟩⟩,bt.out⟩;rw[Bt (by have:=U.out;omega)];exact hx
   ·go_wp2;go_ret;exact⟨⟨0,rfl,.inr (.inl ⟨rfl,h.out⟩)⟩,bt.out⟩
end

section
variable {w W W':Bc} {R:List Dj}
structure KL (w:Bc) (p g c:Nat) (v op:Int) (A:Option Addr) (k:Nat) (who:List BB):Prop where
 BR:AX w p 277 #[zS g 0 1 c,zI v]
 c0:Cl w g 0 (zI op)
 c1:Cl w g 1 (.slice A who.length k)
 lt:g<w.heap.size
 rd:Ay Value.string w w.heap.size 1 A who
theorem Pb.lay {m:Bc} {p:Nat} {v op:Int} {b:List BB} (e:Pb m w p v op b):∃ g c A k,KL w p g c v op A k b:=by
 obtain⟨g,c,A,k,f,h,i⟩:=e;obtain⟨n,a,l,d⟩:=Nr (fun _:Nat=>Value.agg #[zI op,.slice A b.length k]) (size:=2) (xs:=[0]) (fun _=>rfl) h (j:=0) (by simp);injection a with a;injection a with a;subst a;exact⟨g,c,A,k,f,d 0 (by decide),d 1 (by decide),l,Ay.Ea (V:=Value.string) (fun _=>rfl) i⟩
theorem KL.AB {p g c:Nat} {v op:Int} {A:Option Addr} {k:Nat} {d:List BB} (a:KL w p g c v op A k d) (b:Au w W):KL W p g c v op A k d :=
 ⟨a.BR.Ab b id,(b.cell (p:=zA g 0) a.lt id).trans a.c0,(b.cell (p:=zA g 1) a.lt id).trans a.c1,Bj a.lt b.size,a.rd.AB b⟩
def nO (R:List Dj) (c cs:List BB) (b:Nat) (e:Ending):Prop:=∃ a,SQ R c cs b a/\e= .returned (.tuple #[zI a,zI (if a=1 then 0 else -1),zO])
theorem gI (p g c:Nat) (v op:Int) (f:Option Addr) (k:Nat) (a:List BB) (A j:Option Addr) (F B b:Nat) (cs:List BB) (w:Bc) (u:KL w p g c v op f k a)
  (al:0<=op) (am:op<8) (z:D9 a=true) (m:D9 cs=true)
  (J:R.length<=400) (M:∀ r∈R,r.BX.size<=16/\r.Kn.size<=16) (H:1<=b) (I:b<=5000)
  (L:Ay FH w w.heap.size 2 A R) (y:Ay Value.string w w.heap.size 1 j cs) :
  Calls Tryz.prog 276 #[zP p,.slice A R.length F,zI op,.slice j cs.length B,zI (b:Int)] w fun e w'=>nO R a cs b e/\Au w w':=by
 have ao:=(Cm z).2.1;have an:=(Cm m).2.1;have D:=Lh u;have n:=fun W (d:Au w W)=>Km j B cs W (by omega) (fun s aa=>by have:=ET ((Cm m).2.2 s aa);omega) (y.AB d)
 rw[m] at n;have V:=Lh (n w (Aa _ _));have S:=Lh fun W=>Tn b W H I
 have T:=Lh fun W (d:Au w W)=>ZX A f j F k B b a cs W J M (fun C hx=>(Cm z).2.2 C hx) (by omega) (by omega) H I (L.AB d) (u.rd.AB d) (y.AB d)
 have ah:decide (op<0)=false:=dF;have ai:decide (8<=op)=false:=dF;have aj:decide ((400:Int)<(R.length:Int))=false:=by rw[Ag];omega
 have ak:(op != op)=false:=by simp
 clear u L y m z M J n;go_in;go_upto_region 2 with(go_at_call 122;refine V.out.mono ?_;rintro e h ⟨rfl,ac,K⟩;have E:Hid (Au w h):=Lh (K ▸ (T0 w).drewN ac);have ab:Cl h p 0 (zS g 0 1 c):=(D.out.AB E.out).BR.cell 0;clear K)
 go_wp2_with (go_at_call 284;refine(S.out _).mono ?_;rintro e ae ⟨rfl,rfl⟩);clear ab;go_loopg [13,41] 1 fun gk t P wr=>Hid (Au w wr)/\((gk=1/\P=zO/\t=zI 0)∨(gk=0/\P=zI 1/\∃ i:Int,t=zI i/\Hid (i≠1/\SQ R a cs b i)))
 case atStart=>exact⟨E,.inl ⟨rfl,rfl,rfl⟩⟩
 case round =>
  obtain⟨d,Z⟩:=hrel;rcases Z with⟨rfl,rfl,rfl⟩|⟨rfl,rfl,i,rfl,O⟩
  ·have ap:=D.out.AB d.out;have X:=ap.c0;have Y:=ap.c1;have l:Hid (AX (wr.alloc (.cells #[zI op,.slice f a.length k] 40)) wr.heap.size 40 #[zI op,.slice f a.length k]):=Lh (AX.new wr _ _);have x:=Lh (d.out.alloc (.cells #[zI op,.slice f a.length k] 40));clear ap;go_upto_region 11 with(fail)
   generalize wr.alloc (.cells #[zI op,.slice f a.length k] 40)=h at l x ⊢;obtain⟨Q,N⟩:∃ C,C=wr.heap.size:=⟨_,rfl⟩
   rw[<- N] at l ⊢;have af:Cl h Q 0 (zI op):=l.out.cell 0;have ag:Cl h Q 1 (.slice f a.length k):=l.out.cell 1;have U:=Lh (T.out h x.out);clear N;go_upto_region 13 with(fail)
   refine U.out.mono ?_;rintro e ae ⟨⟨t,rfl,hF⟩,G⟩;have o:=Lh hF;have q:=Lh (x.out.to G);clear G af ag X Y;rcases hF with⟨rfl,-⟩|⟨rfl,-⟩|⟨rfl,-⟩
   ·go_wp2;go_ret3;exact⟨⟨1,o.out,rfl⟩,q.out⟩
   ·go_wp2;go_roundg 0
    case measure=>omega
    case rel=>exact⟨q,.inr ⟨rfl,rfl,0,rfl,Lh ⟨by decide,o.out⟩⟩⟩
   ·go_wp2;go_roundg 0
    case measure=>omega
    case rel=>exact⟨q,.inr ⟨rfl,rfl,2,rfl,Lh ⟨by decide,o.out⟩⟩⟩
  ·go_wp2;go_ret3;refine⟨⟨i,O.out.2,by rw[Bg O.out.1];rfl⟩,d.out⟩
end

section
variable {w W W':Bc} {R:List Dj}
theorem mO (op:Int) (w:Bc) (a:0<=op) (b:op<8):Calls Tryz.prog 273 #[zI op] w (Rt (.bool true) fun w'=>w=w'):=by
 have c:decide (0<=op)=true:=by simpa using a
 have d:decide (op<8)=true:=by simpa using b
 go_in;go_wp2;go_ret;exact⟨rfl,rfl⟩
theorem bQ {cs:List BB} (a:D9 cs=true):∀ s∈cs,Mk s:=fun s b=>by
 have:=ET ((Cm a).2.2 s b);unfold Mk maxLen;omega
theorem Wv (op:Int) (b e:Option Addr) (k j d g2:Nat) (a cs:List BB) (w:Bc) (i:D9 a=true) (h:D9 cs=true) (r:Ay Value.string w w.heap.size 1 b a) (q:Ay Value.string w w.heap.size 1 e cs)
  (n:Cl w d 0 (zI op)) (z:d<w.heap.size) (o:Cl w g2 0 (.slice e cs.length j)) (A:g2<w.heap.size) :
  Calls Tryz.prog 279 #[.agg #[zI op,.slice b a.length k],zP d,zP g2] w (Rt (.bool (EF a cs)) (Au w)):=by
 have G:=(Cm i).2.1;have F:=(Cm h).2.1;have c:Au w (w.alloc (.cells #[zI op,.slice b a.length k] 40)):=(Aa _ w).alloc _;have f:Hid (AX (w.alloc (.cells #[zI op,.slice b a.length k] 40)) w.heap.size 40 #[zI op,.slice b a.length k]):=Lh (AX.new w _ _);have g:=Lh (MM b e k j a cs _ (by omega) (by omega) (r.AB c) (q.AB c) (bQ i) (bQ h));have x:(w.alloc (.cells #[zI op,.slice b a.length k] 40)).cell? (zA d 0)=some (zI op):=(c.cell (p:=zA d 0) z id).trans n;have y:(w.alloc (.cells #[zI op,.slice b a.length k] 40)).cell? (zA g2 0)=some (.slice e cs.length j):=(c.cell (p:=zA g2 0) A id).trans o;have l:=Lh c;have D:(op==op)=true:=by simp
 clear i h r q n o c;go_in;go_upto_region 1 with(fail)
 generalize w.alloc (.cells #[zI op,.slice b a.length k] 40)=t at f g x y l ⊢;obtain⟨u,s⟩:∃ C,C=w.heap.size:=⟨_,rfl⟩
 rw[<- s] at f ⊢;have J:Cl t u 0 (zI op):=f.out.cell 0;have K:Cl t u 1 (.slice b a.length k):=f.out.cell 1;clear s;generalize B:EF a cs=I at g;go_wp2_with (go_at_call 262;refine g.out.mono ?_;rintro E H ⟨rfl,m⟩;have v:=Lh (l.out.to m);clear m);go_ret;exact⟨by rw[B];rfl,v.out⟩
theorem ZR (op:Int) (f e:Option Addr) (k v d g2 g h c:Nat) (a cs:List BB) (w:Bc) (t:D9 a=true) (n:D9 cs=true) (s:Ay Value.string w w.heap.size 1 f a) (r:Ay Value.string w w.heap.size 1 e cs)
  (o:Cl w d 0 (zI op)) (A:d<w.heap.size) (p:Cl w g2 0 (.slice e cs.length v)) (B:g2<w.heap.size)
  (D:Cl w g h (zI op)) (E:Cl w g (h+1) (.slice f a.length k)) :
  Calls Tryz.prog 233 #[zS g h 1 c,.func (.func 279) #[] #[zP d,zP g2]] w (Rt (zI (if EF a cs=true then 0 else -1)) (Au w)):=by
 have b:=Wv op f e k v d g2 a cs w t n s r o A p B;obtain⟨x,hq⟩:∃ x:Int,x=(if EF a cs=true then 0 else -1):=⟨_,rfl⟩
 rw[<- hq];have j:=Lh hq;clear hq;clear t n s r o p;go_in;go_wp2;go_loopg [8] 1 fun gk u wr=>(gk=1/\u=zO/\w=wr)∨(gk=0/\u=zI 1/\EF a cs=false/\Hid (Au w wr))
 case atStart=>exact .inl ⟨rfl,rfl,rfl⟩
 case round =>
  rcases hrel with⟨rfl,rfl,rfl⟩|⟨rfl,rfl,m,z⟩
  ·rcases hq:EF a cs with _|_
   all_goals
    rw[hq] at b;have i:=Lh b;clear b;go_wp2_with fail;refine i.out.mono ?_;rintro C F ⟨rfl,q⟩;have l:=Lh q;clear i q;go_wp2_with fail
   ·go_roundg 0
    case measure=>omega
    case rel=>exact .inr ⟨rfl,rfl,hq,l⟩
   ·go_ret;exact⟨by rw[j.out,hq];rfl,l.out⟩
  ·clear b;have y:=Lh m;clear m;go_wp2;go_ret;exact⟨by rw[j.out,y.out];rfl,z.out⟩
theorem Y6 (op:Int) (i d:Option Addr) (k g b f c:Nat) (a cs:List BB) (w:Bc) (z:D9 a=true) (s:D9 cs=true) (x:Ay Value.string w w.heap.size 1 i a) (v:Ay Value.string w w.heap.size 1 d cs)
  (r:b<w.heap.size) (t:Cl w b f (zI op)) (u:Cl w b (f+1) (.slice i a.length k)) :
  Calls Tryz.prog 274 #[zS b f 1 c,zI op,.slice d cs.length g] w (Rt (.tuple #[zI (if EF a cs=true then 0 else -1),.bool (EF a cs)]) (Au w)):=by
 have n:Au w (w.alloc (.cells #[zI op] 3)):=(Aa _ w).alloc _;have e:Au w ((w.alloc (.cells #[zI op] 3)).alloc (.cells #[.slice d cs.length g] 29)):=n.alloc _;have q:=AX.new w 3 #[zI op];have l:=AX.new (w.alloc (.cells #[zI op] 3)) 29 #[.slice d cs.length g];have j:=q.alloc (.cells #[.slice d cs.length g] 29);have h:=Lh (ZR op i d k g _ _ b f c a cs _ z s (x.AB e) (v.AB e) (j.cell 0) j.lt (l.cell 0) l.lt ((e.cell (p:=zA b f) r id).trans t) ((e.cell (p:=zA b (f+1)) r id).trans u));have y:(w.alloc (.cells #[zI op] 3)).heap.size=w.heap.size+1:=by simp
 rw[y] at h;have A:=Lh e;clear z s x v t u n e q l j y;have m:Hid (decide ((0:Int)<=(if EF a cs=true then 0 else -1))=EF a cs):=Lh (by rcases EF a cs with _|_<;>rfl);generalize (if EF a cs=true then(0:Int) else -1)=D at h m ⊢;go_in;go_upto_region 1 with(fail)
 go_wp2_with (go_at_call 233;refine h.out.mono ?_;rintro C E ⟨rfl,o⟩;have B:=Lh (A.out.to o);clear o h);go_ret2;exact⟨by rw[<- m.out];rfl,B.out⟩
end

section
variable {w W W':Bc} {R:List Dj}
def nV (w:Bc) (op:Int) (g:List BB) (e:Ending) (w':Bc):Prop:=(∃ a d c b f,e= .returned (.tuple #[zP a,zO])/\KL w' a d c 0 op b f g)/\Au w w'
theorem aV (C q:Option Addr) (am U g l c k:Nat) (op:Int) (t:Addr) (m cs:List BB) (Z:List Ed) (w:Bc) (ae:0<=op) (af:op<8) (R:D9 m=true) (b:D9 cs=true) (j:∀ z∈Z,Cn z.c) (ah:Z.length<=100) (A:Dt w C Z) (Q:Ay Value.string w w.heap.size 1 (some t) m) (P:Ay Value.string w w.heap.size 1 q cs)
  (o:g<w.heap.size) (M:Cl w g l (zI op)) (N:Cl w g (l+1) (.slice (some t) m.length k)) :
  Calls Tryz.prog 272 #[.slice C Z.length am,zS g l 1 c,.slice q cs.length U] w (nV w op m):=by
 have ba:=(Cm b).2.1;have r:=Km q U cs w (by omega) (fun s aj=>by have:=ET ((Cm b).2.2 s aj);omega) P;rw[b] at r;have Y:=Lh r;have X:=Lh fun W (d:Au w W)=>Tc g l c op t k m W ae af R (Q.AB d) (Bj o d.size) ((d.cell (p:=zA g l) o id).trans M) ((d.cell (p:=zA g (l+1)) o id).trans N)
 have V:=Lh fun W (d:Au w W) z (J:z∈Z)=>Ku z.c z.A z.k W (j z J) ((A.AB d).s z J)
 have ad:=Lh A;obtain⟨e,y⟩:∃ e,e=Z.length:=⟨_,rfl⟩
 have ac:=Lh y;have bd:(e:Int)<=100:=by omega
 rw[<- y];clear R b j A ah y Q P M N r;go_in;go_upto_region 3 with(go_at_call 122;refine Y.out.mono ?_;rintro H ap ⟨rfl,an,O⟩;have E:Hid (Au w ap):=Lh (O ▸ (T0 w).drewN an);clear O)
 go_upto_region 6 with(go_at_call 119;refine(X.out _ E.out).mono ?_;rintro H aq ⟨p,rfl,n,ai,be⟩;obtain⟨I,G,B,T,K⟩:=n.lay;have aa:=Lh K;have ab:=Lh (E.out.to be);clear n ai be K)
 go_wp2;go_loopg [24] e fun gk i wr=>∃ a:Nat,a+gk=e/\i=zI a/\Hid (Au w wr)/\Hid (KL wr p I G 0 op B T m)
 case atStart=>exact⟨0,by omega,rfl,ab,aa⟩
 case round =>
  obtain⟨a,bb,rfl,d,n⟩:=hrel;by_cases bc:a<e
  ·have x:a<Z.length:=by have:=ac.out;omega
   obtain⟨f,h,rfl,o,b⟩:=(ad.out.AB d.out).cells x;obtain⟨z,j⟩:∃ z,z=Z[a]:=⟨_,rfl⟩
   have S:z∈Z:=by rw[j];exact Br x
   rw[<- j] at b;have al:(a:Int)<(e:Int):=by omega
   have ar:Cl wr f (h+a*7) (zI z.c.kind):=b 0 (by omega);have au:Cl wr f (h+a*7+1) (zU z.c.Aq):=b 1 (by omega);have av:Cl wr f (h+a*7+2) (.string z.c.Ad):=b 2 (by omega);have aw:Cl wr f (h+a*7+3) (.slice z.A z.c.Bl.length z.k):=b 3 (by omega);have ax:Cl wr f (h+a*7+4) (zI z.c.BX):=b 4 (by omega);have ay:Cl wr f (h+a*7+5) (zI z.c.till):=b 5 (by omega);have az:Cl wr f (h+a*7+6) (zI z.c.AO):=b 6 (by omega);clear j b o x;have D:=Lh fun W (d:Au w W)=>V.out W d z S
   have L:Cu z.c z.A z.k=#[zI z.c.kind,zU z.c.Aq,.string z.c.Ad,.slice z.A z.c.Bl.length z.k,zI z.c.BX,zI z.c.till,zI z.c.AO]:=rfl;have F:Hid (AX (wr.alloc (.cells (Cu z.c z.A z.k) 31)) wr.heap.size 31 (Cu z.c z.A z.k)):=Lh (AX.new wr _ _);have v:=(T0 wr).alloc (.cells (Cu z.c z.A z.k) 31);have u:=Lh (d.out.to v);have hA2:=Lh (n.out.AB v);clear v;rw[L] at D F u hA2;clear L S;go_upto_region 9 with(fail)
   go_wp2_with (first
    |(refine AA rfl (.tmp 11) rfl rfl F.out Tryz.underlying31 rfl Cg ?_)
    |(go_at_call 111;refine(D.out _ u.out).mono ?_;rintro H aq ⟨rfl,be⟩;have ag:=Lh (u.out.to be);have hA3:=Lh (hA2.out.AB be);clear be))
   go_roundg (gk-1)
   case measure=>omega
   case rel=>exact⟨a+1,by omega,by go_num,ag,hA3⟩
  ·have al:¬(a:Int)<(e:Int):=by omega
   go_wp2;go_ret2;exact⟨⟨p,I,G,B,T,rfl,n.out⟩,d.out⟩
end

end Go.Proofs.YtcjcndnjpedniaaGreat
