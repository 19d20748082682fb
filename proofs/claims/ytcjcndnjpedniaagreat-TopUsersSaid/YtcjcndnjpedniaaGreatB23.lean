/- A part of the proof of TopUsers. -/
import Derived.Test.YtcjcndnjpedniaaGreatB22
namespace Go.Proofs.YtcjcndnjpedniaaGreat
set_option linter.all false
set_option maxRecDepth 100000
set_option maxHeartbeats 8000000
open Go.RowKit
structure Lk where
 m:Nat
 A:Option Addr
 n:Nat
 c:Nat
 L:List BB
def rC (x:Lk):Value:=.agg #[zI (x.m:Int),.slice x.A x.n x.c]
structure fQ (W:Bc) (base b:Nat) (R:List Dj) (v:BB) (x:Lk):Prop where
 m:x.m<=R.length
 l:x.L.length=x.n
 le:x.n<=b
 full:Le (R.take x.m) v x.L
 may:CX v=true
 own:W.ownsRow base 27 1 (.slice x.A x.n x.c) x.n (x.L.map Value.string)
structure Gi (W:Bc) (base kb sb:Nat) (A:Option Addr) (c b:Nat) (R:List Dj) (f:BB->Option Lk):Prop where
 BR:AX W kb 412 #[.slice A R.length c,zI (b:Int),.map (some sb)]
 rules:W.ownsRow base 381 2 (.slice A R.length c) R.length (BN FH R)
 mp:GI W 27 sb Value.string rC Mk f
 ok:∀ v x,f v=some x->fQ W base b R v x
section
variable {w W W':Bc} {R:List Dj} {L:List BB} {u v:BB} {base kb sb c b:Nat} {A:Option Addr} {f:BB->Option Lk}
theorem fQ.Ab {S:Nat->Prop} {x:Lk} (a:fQ W base b R v x) (d:Am S W W') (c:∀ g cs,AX W g 27 cs->¬S g):fQ W' base b R v x :=
 ⟨a.m,a.l,a.le,a.full,a.may,Aj a.own d fun g f=>by obtain⟨cs,e⟩:=Iq a.own f;exact c g cs e⟩
theorem Gi.AB (a:Gi W base kb sb A c b R f) (d:Au W W'):Gi W' base kb sb A c b R f :=
 ⟨a.BR.Ab d id,Aj a.rules d fun _ _ a=>a,a.mp.AB d,fun v e hx=>(a.ok v e hx).Ab d fun _ _ _ a=>a⟩
def qD (w:Bc) (R:List Dj) (u:BB) (b:Nat) (e:Ending) (w':Bc):Prop :=
 ∃ A a c d L,e= .returned (.tuple #[.slice A a c,zI d])/\w'.ownsRow w.heap.size 27 1 (.slice A a c) a (L.map Value.string)/\L.length=a/\((d=0/\Le R u L/\a<=b)∨(d=12/\A=none/\a=0/\c=0/\JK R u b))/\Au w w'
theorem kN (A:Option Addr) (c b:Nat) (w:Bc) (k:R.length<=400) (m:∀ r∈R,r.BX.size<=16/\r.Kn.size<=16) (n:CX u=true) (i:1<=b) (j:b<=5000) (l:Ay FH w w.heap.size 2 A R) :
  Calls Tryz.prog 288 #[.slice A R.length c,.string u,zI (b:Int)] w (qD w R u b) :=
 (gG A c b w k m n i j l).mono fun p q e=>by
  obtain⟨⟨A,o,c,L,rfl,a,f,g,h⟩|⟨rfl,a⟩,d⟩:=e
  ·exact⟨A,o,c,0,L,rfl,a,f,.inl ⟨rfl,g,h⟩,d⟩
  ·exact⟨none,0,0,12,[],rfl,World.ownsRow_nil _ _ _ _,rfl,.inr ⟨rfl,rfl,rfl,rfl,a⟩,d⟩
def lJ (w:Bc) (base kb sb:Nat) (A:Option Addr) (c b:Nat) (R:List Dj) (v:BB) (e:Ending) (w':Bc):Prop :=
 ∃ f a g d L h,e= .returned (.tuple #[.slice f a g,zI d])/\w'.ownsRow base 27 1 (.slice f a g) a (L.map Value.string)/\L.length=a/\a<=5000/\((d=0/\Le R v L)∨(d=12/\JK R v b))/\Gi w' base kb sb A c b R h/\Am (fun i=>i=sb) w w'
theorem RB (w:Bc):(zeroValue 423).run Tryz.prog w= .ok (.agg #[zO,zN]) w:=by kernel_rfl
theorem NM:(Tryz.prog.info? 423).map (·.size)=some 2:=by kernel_rfl
theorem Gi.put (d:Gi W base kb sb A c b R f) (q:CX v=true) {h:Option Addr} {n i:Nat} (y:L.length=n) (t:n<=b) (hF:Le R v L) (l:W.ownsRow base 27 1 (.slice h n i) n (L.map Value.string)) :
  ∃ w2,(Instr.mapUpdate 410 (.map (some sb)) (.string v) (.agg #[zI (R.length:Int),.slice h n i])).run Tryz.prog W= .ok () w2/\Gi w2 base kb sb A c b R (Ig f v ⟨R.length,h,n,i,L⟩)/\Am (fun k=>k=sb) W w2/\w2.ownsRow base 27 1 (.slice h n i) n (L.map Value.string):=by
 have B:Mk v:=by have:=ET q;unfold Mk maxLen;omega
 obtain⟨w2,C,s,g⟩:=d.mp.put (T:=410) (e:=423) GV Tryz.underlying410 B ⟨R.length,h,n,i,L⟩;have o:∀ a r e,AX W a r e->¬a=sb:=fun a r e m=>d.mp.Ee m
 have p:∀ {base j D n:Nat} {v:Value} {F:List Value},W.ownsRow base j D v n F->∀ a,v.ownBlock=some a->¬a=sb:=fun z a x=>by
  obtain⟨e,w⟩:=Iq z x;exact o a _ e w
 refine⟨w2,C,⟨d.BR.Ab g (o _ _ _ d.BR),Aj d.rules g (p d.rules),s,fun u E hx=>?_⟩,g,Aj l g (p l)⟩;unfold Ig at hx;split at hx
 ·rename_i j;injection hx with hx;subst hx j;exact⟨AY _,y,t,by rw[Cr];exact hF,q,Aj l g (p l)⟩
 ·exact(d.ok u E hx).Ab g fun a e m=>o a _ e m
theorem VV (w:Bc) (i:Gi w base kb sb A c b R f) (ci:base<=w.heap.size) (ca:R.length<=400) (bk:∀ r∈R,r.BX.size<=16/\r.Kn.size<=16) (br:CX v=true) (ch:1<=b) (bz:b<=5000) :
  Calls Tryz.prog 286 #[zP kb,.string v] w (lJ w base kb sb A c b R v):=by
 have ab:Mk v:=by have:=ET br;unfold Mk maxLen;omega
 have cc:∀ W,Au w W->Ay FH W W.heap.size 2 A R:=fun W dc=>Ay.Hu (V:=FH) (fun _=>rfl) (i.AB dc).rules
 have bt:=Lh fun W (dc:Au w W)=>kN (u:=v) A c b W ca bk br ch bz (cc W dc)
 have cj:R.length<=c:=by
  rcases i.rules.2 with⟨h,da⟩|⟨U,cy,cz,h,_,_,db,_⟩
  ·injection h with _ _ h;omega
  ·injection h with _ _ h;omega
 have co:=Lh fun W (dc:Au w W) (K:Nat) (L:List BB) (bs:Option Addr) (cd cg:Nat) (cq:K<=R.length) (cr:L.length=cd) (cs:cd<=5000) (ct:∀ v∈L,v.size<=16) (cu:Ay Value.string W W.heap.size 1 bs L)=>(show Calls Tryz.prog 291 #[zP kb,.agg #[zI (K:Int),.slice bs cd cg]] W (Zk W R K L) from by subst cr;exact YD kb K A bs c cg _ _ W (i.AB dc).BR ca cj bk (cc W dc) cq cs ct cu)
 have bq:=Lh br;have cf:=Lh ci;have bp:=Lh bz;have cx:=Lh ab;have ck:=fun W=>RB W
 have J:Cl w kb 2 (.map (some sb)):=i.BR.cell 2;have dd:=Lh i;have cv:(R.length:Int)<=400:=by omega
 obtain⟨k,cb⟩:∃ k,k=R.length:=⟨_,rfl⟩
 have P:=Lh cb;rw[<- cb] at bt cv;clear cc cj ca bk br ch bz ci cb;rcases bg:f v with _|x
 ·have bm:=i.mp.JI (T:=410) (e:=423) GV Tryz.underlying410 ab bg (RB w) true;simp only[if_true] at bm;clear bg i ab;go_in;go_upto_region 3 with(fail)
  have g:Hid (AX (w.alloc (.cells #[zO,zN] 423)) w.heap.size 423 #[zO,zN]):=Lh (AX.new w _ _);have e:Hid (Au w (w.alloc (.cells #[zO,zN] 423))):=Lh ((Aa _ w).alloc _);obtain⟨d,ap⟩:∃ x,x=w.heap.size:=⟨_,rfl⟩
  generalize w.alloc (.cells #[zO,zN] 423)=G at g e ⊢;rw[<- ap] at g ⊢;have au:=Lh ap;clear ap bm J ck;obtain⟨aq,bi⟩:∃ aq:Value,aq=zO:=⟨_,rfl⟩
  obtain⟨bn,bj⟩:∃ bn:Value,bn=zN:=⟨_,rfl⟩
  rw[<- bi,<- bj] at g;clear bi bj;have ao:=dd.out.AB e.out;have I:Cl G kb 0 (.slice A k c):=by rw[P.out];exact ao.BR.cell 0
  have bl:Cl G kb 1 (zI (b:Int)):=ao.BR.cell 1;clear ao;refine GZ (fun W=>Cl W kb 0 (.slice A k c)/\Cl W kb 1 (zI (b:Int))) ⟨I,bl⟩ fun a=>?_
  replace g:=Lh g.out.drew;replace e:=Lh e.out.drew;generalize G.drew=bo at g e a ⊢;clear I bl;refine hq 0 27 a ?_;refine hq 1 28 a ?_;refine hq 2 29 a ?_;refine hq 3 30 a ?_;refine hq 4 31 a ?_;refine hq 5 32 a ?_;refine hq 6 33 a ?_;refine hq 7 34 a ?_;refine hq 8 35 a ?_;refine Gg 9 fun X dc=>?_
  go_simp;refine(bt.out _ e.out).mono ?_;rintro h M ⟨m,o,n,cp,bb,rfl,be,bd,aa,C⟩;have aw:=Lh (Du (base':=base) be (AV cf.out e.out.size));have ae:=Lh bd;have ay:=Lh aa;replace g:=Lh (g.out.Ab C id);replace e:=Lh (e.out.to C);clear be bd aa C;go_wp2;refine dc.out _ _ (by(try dsimp only);exact⟨by rw[P.out];exact(dd.out.AB e.out).BR.cell 0,(dd.out.AB e.out).BR.cell 1⟩) fun a=>?_
  clear dc X;refine hq 10 26 a ?_;refine hq 11 37 a ?_;refine hq 12 38 a ?_;refine hq 13 8 a ?_;refine hq 14 9 a ?_;refine zw ?_;clear a;have aa:=ay.out;rcases aa with⟨rfl,hF,bh⟩|⟨rfl,rfl,rfl,rfl,ab⟩
  ·have ac:=Lh hF;have ad:=Lh bh;clear hF bh ay;have an:=g.out.cell 1;have bx:=g.out.frozen 1;go_upto_region 7 with(fail)
   have B:Hid (AX (M.setCell (zA d 1) (.slice m o n)) d 423 #[aq,.slice m o n]):=Lh (g.out.Dw 1 (.slice m o n));have y:Am (fun j=>j=d) M (M.setCell (zA d 1) (.slice m o n)):=(Aa (fun j=>j=d) M).setCell (p:=zA d 1) (fun _=>rfl) _;have Q:=Lh (Aj aw.out y fun U Z h=>Ba aw.out g.out (by decide) (by rw[<- show U=d from h];exact Z));have O:Hid (Au w _):=Lh (e.out.AJ y fun j C h=>by have:=au.out;omega);clear an bx y;generalize M.setCell (zA d 1) (.slice m o n)=de at B Q O ⊢;have ag:=dd.out.AB O.out;have I:Cl de kb 0 (.slice A k c):=by rw[P.out];exact ag.BR.cell 0
   have ar:=B.out.cell 0;have bc:=B.out.frozen 0;clear ag;go_upto_region 8 with(fail)
   have q:Hid (AX (de.setCell (zA d 0) (zI (k:Int))) d 423 #[zI (k:Int),.slice m o n]):=Lh (B.out.Dw 0 (zI (k:Int)));have y:Am (fun j=>j=d) de (de.setCell (zA d 0) (zI (k:Int))):=(Aa (fun j=>j=d) de).setCell (p:=zA d 0) (fun _=>rfl) _;have z:=Lh (Aj Q.out y fun U Z h=>Ba Q.out B.out (by decide) (by rw[<- show U=d from h];exact Z));have l:Hid (Au w _):=Lh (O.out.AJ y fun j C h=>by have:=au.out;omega);clear I ar bc y;generalize de.setCell (zA d 0) (zI (k:Int))=ak at q z l ⊢;have J:Cl ak kb 2 (.map (some sb)):=(dd.out.AB l.out).BR.cell 2;refine EQ 6 (S:=fun W=>Cl W kb 2 (.map (some sb))/\AX W d 423 #[zI (k:Int),.slice m o n]) (by kernel_rfl) ⟨J,q.out.drew⟩ fun a=>?_
   replace q:=Lh q.out.drew;replace z:=Lh z.out.drew;replace l:=Lh l.out.drew;generalize ak.drew=cn at q z l a ⊢;clear J;refine zq 0 50 a ?_;refine zq 1 51 a ?_;refine zq 2 52 a ?_;refine zq 3 53 a ?_;refine zq 4 54 a ?_;refine zq 5 55 (hx:=fun W bf=>Ce (.tmp 6) rfl rfl bf.2 Tryz.underlying423 rfl NM) a ?_;obtain⟨al,aj,ah,H,ai⟩:=(dd.out.AB l.out).put bq.out ae.out ad.out ac.out z.out;rw[<- P.out] at aj;refine zl fun X dc=>?_
   go_simp;refine dc.out _ _ ?_;clear dc X;refine zd ?_;clear aj a;have av:=Lh ah;have ax:=Lh ai;have ba:=Lh (q.out.Ab H fun h=>(dd.out.AB l.out).mp.Ee q.out h);have az:Hid (Am (fun j=>j=sb) w al):=Lh ((l.out.mono fun _ _ i=>i.elim).AJ H fun _ _ i=>i);have an:Cl al d 1 (.slice m o n):=ba.out.cell 1;clear ah ai H;go_wp2;go_ret2;exact⟨m,o,n,0,bb,_,rfl,ax.out,ae.out,by have:=ad.out;have:=bp.out;omega,.inl ⟨rfl,ac.out⟩,av.out,az.out⟩
  ·go_wp2;go_ret2;exact⟨none,0,0,12,[],f,rfl,World.ownsRow_nil _ _ _ _,rfl,by omega,.inr ⟨rfl,ab⟩,dd.out.AB e.out,e.out.mono fun _ _ i=>i.elim⟩
 ·obtain⟨x,hx⟩:∃ E,E=x:=⟨_,rfl⟩
  subst hx;have cl:=i.ok v x bg;have bm:=i.mp.Jc (T:=410) (e:=423) GV Tryz.underlying410 ab bg true;obtain⟨K,N,D,Y,af⟩:=x;simp only[if_true,rC] at bm;have F:=Lh cl;clear bg i ab cl;go_in;go_upto_region 2 with(fail)
  have g:Hid (AX (w.alloc (.cells #[zI (K:Int),.slice N D Y] 423)) w.heap.size 423 #[zI (K:Int),.slice N D Y]):=Lh (AX.new w _ _);have e:Hid (Au w (w.alloc (.cells #[zI (K:Int),.slice N D Y] 423))):=Lh ((Aa _ w).alloc _);obtain⟨d,ap⟩:∃ x,x=w.heap.size:=⟨_,rfl⟩
  generalize w.alloc (.cells #[zI (K:Int),.slice N D Y] 423)=G at g e ⊢;rw[<- ap] at g ⊢;have au:=Lh ap;clear ap bm J ck;have cm:G.ownsRow base 27 1 (.slice N D Y) D (af.map Value.string):=Aj F.out.own e.out fun _ _ i=>i
  have bv:Hid (Ay Value.string G G.heap.size 1 N af):=Lh (Ay.Ea (V:=Value.string) (fun _=>rfl) (by have:=F.out.l;dsimp only at this;rw[this];exact cm));have bu:Hid (∀ s∈af,s.size<=16):=Lh fun s bk=>ET (((F.out.full.2 s).1 bk).may bq.out)
  clear cm;have ar:=g.out.cell 0;have an:=g.out.cell 1;go_wp2_with fail;refine(co.out G e.out K af N D Y F.out.m F.out.l (by have:=F.out.le;have:=bp.out;dsimp only at *;omega) bu.out bv.out).mono ?_;rintro h bo ⟨t,rfl,ht,C⟩;have bw:=Lh ht;replace g:=Lh (g.out.Ab C id);replace e:=Lh (e.out.to C);clear ht C ar an;rcases t with _|_
  ·go_upto_region 7 with(fail)
   have ac:Hid (Le R v af):=Lh (by have:=XC F.out.full (Yb (bw.out (by simp)));dsimp only at this;rw[EW] at this;exact this);have ad:Hid (D<=b):=Lh F.out.le;have ae:Hid (af.length=D):=Lh F.out.l;have Q:Hid (bo.ownsRow base 27 1 (.slice N D Y) D (af.map Value.string)):=Lh (Aj F.out.own e.out fun _ _ i=>i);have B:=g;have O:=e;clear g e bw bv bu F;obtain⟨de,rfl⟩:∃ E,E=bo:=⟨_,rfl⟩
   obtain⟨m,rfl⟩:∃ E,E=N:=⟨_,rfl⟩
   obtain⟨o,rfl⟩:∃ E,E=D:=⟨_,rfl⟩
   obtain⟨n,rfl⟩:∃ E,E=Y:=⟨_,rfl⟩
   obtain⟨bb,rfl⟩:∃ E,E=af:=⟨_,rfl⟩
   have ag:=dd.out.AB O.out;have I:Cl de kb 0 (.slice A k c):=by rw[P.out];exact ag.BR.cell 0
   have ar:=B.out.cell 0;have bc:=B.out.frozen 0;clear ag;go_upto_region 8 with(fail)
   have q:Hid (AX (de.setCell (zA d 0) (zI (k:Int))) d 423 #[zI (k:Int),.slice m o n]):=Lh (B.out.Dw 0 (zI (k:Int)));have y:Am (fun j=>j=d) de (de.setCell (zA d 0) (zI (k:Int))):=(Aa (fun j=>j=d) de).setCell (p:=zA d 0) (fun _=>rfl) _;have z:=Lh (Aj Q.out y fun U Z h=>Ba Q.out B.out (by decide) (by rw[<- show U=d from h];exact Z));have l:Hid (Au w _):=Lh (O.out.AJ y fun j C h=>by have:=au.out;omega);clear I ar bc y;generalize de.setCell (zA d 0) (zI (k:Int))=ak at q z l ⊢;have J:Cl ak kb 2 (.map (some sb)):=(dd.out.AB l.out).BR.cell 2;refine EQ 6 (S:=fun W=>Cl W kb 2 (.map (some sb))/\AX W d 423 #[zI (k:Int),.slice m o n]) (by kernel_rfl) ⟨J,q.out.drew⟩ fun a=>?_
   replace q:=Lh q.out.drew;replace z:=Lh z.out.drew;replace l:=Lh l.out.drew;generalize ak.drew=cn at q z l a ⊢;clear J;refine zq 0 50 a ?_;refine zq 1 51 a ?_;refine zq 2 52 a ?_;refine zq 3 53 a ?_;refine zq 4 54 a ?_;refine zq 5 55 (hx:=fun W bf=>Ce (.tmp 6) rfl rfl bf.2 Tryz.underlying423 rfl NM) a ?_;obtain⟨al,aj,ah,H,ai⟩:=(dd.out.AB l.out).put bq.out ae.out ad.out ac.out z.out;rw[<- P.out] at aj;refine zl fun X dc=>?_
   go_simp;refine dc.out _ _ ?_;clear dc X;refine zd ?_;clear aj a;have av:=Lh ah;have ax:=Lh ai;have ba:=Lh (q.out.Ab H fun h=>(dd.out.AB l.out).mp.Ee q.out h);have az:Hid (Am (fun j=>j=sb) w al):=Lh ((l.out.mono fun _ _ i=>i.elim).AJ H fun _ _ i=>i);have an:Cl al d 1 (.slice m o n):=ba.out.cell 1;clear ah ai H;go_wp2;go_ret2;exact⟨m,o,n,0,bb,_,rfl,ax.out,ae.out,by have:=ad.out;have:=bp.out;omega,.inl ⟨rfl,ac.out⟩,av.out,az.out⟩
  ·go_upto_region 3 with(fail)
   obtain⟨aq,bi⟩:∃ aq:Value,aq=zI (K:Int):=⟨_,rfl⟩
   obtain⟨bn,bj⟩:∃ bn:Value,bn= .slice N D Y:=⟨_,rfl⟩
   rw[<- bi,<- bj] at g;clear bi bj bw bv bu F;obtain⟨G,rfl⟩:∃ E,E=bo:=⟨_,rfl⟩
   have ao:=dd.out.AB e.out;have I:Cl G kb 0 (.slice A k c):=by rw[P.out];exact ao.BR.cell 0
   have bl:Cl G kb 1 (zI (b:Int)):=ao.BR.cell 1;clear ao;refine GZ (fun W=>Cl W kb 0 (.slice A k c)/\Cl W kb 1 (zI (b:Int))) ⟨I,bl⟩ fun a=>?_
   replace g:=Lh g.out.drew;replace e:=Lh e.out.drew;generalize G.drew=bo at g e a ⊢;clear I bl;refine hq 0 27 a ?_;refine hq 1 28 a ?_;refine hq 2 29 a ?_;refine hq 3 30 a ?_;refine hq 4 31 a ?_;refine hq 5 32 a ?_;refine hq 6 33 a ?_;refine hq 7 34 a ?_;refine hq 8 35 a ?_;refine Gg 9 fun X dc=>?_
   go_simp;refine(bt.out _ e.out).mono ?_;rintro h M ⟨m,o,n,cp,bb,rfl,be,bd,aa,C⟩;have aw:=Lh (Du (base':=base) be (AV cf.out e.out.size));have ae:=Lh bd;have ay:=Lh aa;replace g:=Lh (g.out.Ab C id);replace e:=Lh (e.out.to C);clear be bd aa C;go_wp2;refine dc.out _ _ (by(try dsimp only);exact⟨by rw[P.out];exact(dd.out.AB e.out).BR.cell 0,(dd.out.AB e.out).BR.cell 1⟩) fun a=>?_
   clear dc X;refine hq 10 26 a ?_;refine hq 11 37 a ?_;refine hq 12 38 a ?_;refine hq 13 8 a ?_;refine hq 14 9 a ?_;refine zw ?_;clear a;have aa:=ay.out;rcases aa with⟨rfl,hF,bh⟩|⟨rfl,rfl,rfl,rfl,ab⟩
   ·have ac:=Lh hF;have ad:=Lh bh;clear hF bh ay;have an:=g.out.cell 1;have bx:=g.out.frozen 1;go_upto_region 7 with(fail)
    have B:Hid (AX (M.setCell (zA d 1) (.slice m o n)) d 423 #[aq,.slice m o n]):=Lh (g.out.Dw 1 (.slice m o n));have y:Am (fun j=>j=d) M (M.setCell (zA d 1) (.slice m o n)):=(Aa (fun j=>j=d) M).setCell (p:=zA d 1) (fun _=>rfl) _;have Q:=Lh (Aj aw.out y fun U Z h=>Ba aw.out g.out (by decide) (by rw[<- show U=d from h];exact Z));have O:Hid (Au w _):=Lh (e.out.AJ y fun j C h=>by have:=au.out;omega);clear an bx y;generalize M.setCell (zA d 1) (.slice m o n)=de at B Q O ⊢;have ag:=dd.out.AB O.out;have I:Cl de kb 0 (.slice A k c):=by rw[P.out];exact ag.BR.cell 0
    have ar:=B.out.cell 0;have bc:=B.out.frozen 0;clear ag;go_upto_region 8 with(fail)
    have q:Hid (AX (de.setCell (zA d 0) (zI (k:Int))) d 423 #[zI (k:Int),.slice m o n]):=Lh (B.out.Dw 0 (zI (k:Int)));have y:Am (fun j=>j=d) de (de.setCell (zA d 0) (zI (k:Int))):=(Aa (fun j=>j=d) de).setCell (p:=zA d 0) (fun _=>rfl) _;have z:=Lh (Aj Q.out y fun U Z h=>Ba Q.out B.out (by decide) (by rw[<- show U=d from h];exact Z));have l:Hid (Au w _):=Lh (O.out.AJ y fun j C h=>by have:=au.out;omega);clear I ar bc y;generalize de.setCell (zA d 0) (zI (k:Int))=ak at q z l ⊢;have J:Cl ak kb 2 (.map (some sb)):=(dd.out.AB l.out).BR.cell 2;refine EQ 6 (S:=fun W=>Cl W kb 2 (.map (some sb))/\AX W d 423 #[zI (k:Int),.slice m o n]) (by kernel_rfl) ⟨J,q.out.drew⟩ fun a=>?_
    replace q:=Lh q.out.drew;replace z:=Lh z.out.drew;replace l:=Lh l.out.drew;generalize ak.drew=cn at q z l a ⊢;clear J;refine zq 0 50 a ?_;refine zq 1 51 a ?_;refine zq 2 52 a ?_;refine zq 3 53 a ?_;refine zq 4 54 a ?_;refine zq 5 55 (hx:=fun W bf=>Ce (.tmp 6) rfl rfl bf.2 Tryz.underlying423 rfl NM) a ?_;obtain⟨al,aj,ah,H,ai⟩:=(dd.out.AB l.out).put bq.out ae.out ad.out ac.out z.out;rw[<- P.out] at aj;refine zl fun X dc=>?_
    go_simp;refine dc.out _ _ ?_;clear dc X;refine zd ?_;clear aj a;have av:=Lh ah;have ax:=Lh ai;have ba:=Lh (q.out.Ab H fun h=>(dd.out.AB l.out).mp.Ee q.out h);have az:Hid (Am (fun j=>j=sb) w al):=Lh ((l.out.mono fun _ _ i=>i.elim).AJ H fun _ _ i=>i);have an:Cl al d 1 (.slice m o n):=ba.out.cell 1;clear ah ai H;go_wp2;go_ret2;exact⟨m,o,n,0,bb,_,rfl,ax.out,ae.out,by have:=ad.out;have:=bp.out;omega,.inl ⟨rfl,ac.out⟩,av.out,az.out⟩
   ·go_wp2;go_ret2;exact⟨none,0,0,12,[],f,rfl,World.ownsRow_nil _ _ _ _,rfl,by omega,.inr ⟨rfl,ab⟩,dd.out.AB e.out,e.out.mono fun _ _ i=>i.elim⟩
end

section
variable {w W W':Bc} {R:List Dj} {u v:BB} {base kb sb c b:Nat} {A:Option Addr} {f:BB->Option Lk}
theorem ZA {p:Addr} {x:Value} {k:Nat} {b:Array MapEntry} {a:Nat} (c:W.cell? p=some x) (d:W.heap[k]?= some (.map b a)):p.block≠k:=by
 rintro rfl;simp[World.cell?,d] at c
theorem Yt {n : Type} {V:n->Value} {size k:Nat} {xs:List n} (t:∀ x,(V x).cells.size=size) (l:0<size) (q:Ay V W W.heap.size size A xs) (h:Am (fun i=>i=k) W W') (a:∃ d c,W.heap[k]?= some (.map d c)):Ay V W' W'.heap.size size A xs:=fun b v=>by
 obtain⟨d,c,a⟩:=a;obtain⟨e,m,r,f,g⟩:=q b v;refine⟨e,m,r,Bj f h.size,fun i u=>(h.cell (p:=zA e (m+b*size+i)) f fun o=>?_).trans (g i u)⟩;have j:=g 0 l;have s:0<(V xs[b]).cells.size:=by rw[t];exact l
 rw[EZ s] at j;exact ZA j a o
theorem GI.lW {d e : Type} {g:d->Value} {V:e->Value} {ok:d->Prop} {f:d->Option e} {k:TypeId} (h:GI W k b g V ok f):∃ c a,W.heap[b]?= some (.map c a):=by
 obtain⟨j,⟨c,a,i,_⟩,_⟩:=h;exact⟨c,a,i⟩
def fH (w:Bc) (base kb sb:Nat) (A:Option Addr) (c b:Nat) (R:List Dj) (z:Ca) (e:Ending) (w':Bc):Prop :=
 ∃ d a f,e= .returned (.tuple #[.bool d,zI a])/\((a=0/\(d=true->∀ v∈z.Bl,Fv R v (C8 [z.Aq]))/\(d=false->∃ v∈z.Bl,¬Fv R v (C8 [z.Aq])))∨(a=12/\∃ v∈z.Bl,JK R v b))/\Gi w' base kb sb A c b R f/\Am (fun g=>g=sb) w w'
theorem Vt (z:Ca) (g:Option Addr) (h:Nat) (w:Bc) (a:Gi w base kb sb A c b R f) (ah:base<=w.heap.size) (ak:R.length<=400) (ao:∀ r∈R,r.BX.size<=16/\r.Kn.size<=16) (af:1<=b) (ag:b<=5000)
  (bo:Ey z.Aq) (ap:D9 z.Bl=true) (bp:z.Bl.length<=1000) (t:Ay Value.string w w.heap.size 1 g z.Bl) :
  Calls Tryz.prog 282 #[zP kb,.agg (Cu z g h)] w (fH w base kb sb A c b R z):=by
 have aj:Cu z g h=#[zI z.kind,zU z.Aq,.string z.Ad,.slice g z.Bl.length h,zI z.BX,zI z.till,zI z.AO]:=rfl;have m:Au w (w.alloc (.cells (Cu z g h) 31)):=(Aa _ w).alloc _;have j:Hid (AX (w.alloc (.cells (Cu z g h) 31)) w.heap.size 31 (Cu z g h)):=Lh (AX.new w _ _);rw[aj] at m j ⊢;have B:=Lh (a.AB m);have G:=Lh (t.AB m);have C:=Lh m;have bc:=Lh (Cm ap).2.2;have az:=Lh ah;have ax:Hid (∀ (W:Bc) (M u:Nat),AX W M 25 #[zU z.Aq]->Calls Tryz.prog 91 #[zS M 0 1 u] W (Rt (.string (C8 [z.Aq])) (Au W))):=Lh fun W M u bm=>KW [z.Aq] rfl rfl (by simp) (fun x hx=>by rw[Ai.1 hx];exact bo) W bm
 have ay:=Lh fun(W:Bc) (f:BB->Option Lk) (v:BB) (a:Gi W base kb sb A c b R f) (bk:base<=W.heap.size) (bl:CX v=true)=>VV (v:=v) W a bk ak ao bl af ag
 obtain⟨e,O⟩:∃ e,e=z.Bl.length:=⟨_,rfl⟩
 have X:=Lh O;have cf:(e:Int)<=1000:=by omega
 rw[<- O] at j B G C ⊢;clear a t m ap ah ao ak af ag aj O bp;go_in;go_upto_region 1 with(fail)
 obtain⟨aw,au⟩:∃ x,x=w.heap.size:=⟨_,rfl⟩
 generalize w.alloc (.cells #[zI z.kind,zU z.Aq,.string z.Ad,.slice g e h,zI z.BX,zI z.till,zI z.AO] 31)=bv at j B G C ⊢;rw[<- au] at j ⊢;clear au;have bz:Cl bv aw 1 (zU z.Aq):=j.out.cell 1;go_upto_region 2 with(go_at_call 91;refine(ax.out _ _ _ ?_).mono ?_;(exact AX.new _ _ _);rintro K bw ⟨rfl,ch⟩;replace ch:=((T0 _).alloc _).to ch;have ba:=Lh (B.out.AB ch);have bg:=Lh (G.out.AB ch);have bj:=Lh (j.out.Ab ch id);have bb:=Lh (C.out.to ch);clear ch bz;have ca:Cl bw aw 3 (.slice g e h):=bj.out.cell 3)
 generalize aq:C8 [z.Aq]=n;have aa:=Lh aq;clear aq;go_wp2_with fail;clear ca;go_loopg [18] e fun gk i wr=>∃ (d:Nat) (p:BB->Option Lk),d+gk=e/\i=zI d/\Hid (∀ v∈z.Bl.take d,Fv R v n)/\Hid (Gi wr base kb sb A c b R p)/\Hid (Ay Value.string wr wr.heap.size 1 g z.Bl)/\Hid (Am (fun u=>u=sb) w wr)
 case atStart=>exact⟨0,f,by omega,rfl,Lh fun v a=>by simp at a,ba,bg,Lh (bb.out.mono fun _ _ a=>a.elim)⟩
 case round =>
  obtain⟨d,p,cd,rfl,Q,D,Z,H⟩:=hrel;by_cases ce:d<e
  ·have br:(d:Int)<(e:Int):=by omega
   have q:d<z.Bl.length:=by have:=X.out;omega
   obtain⟨cb,cg,rfl,bn,ai⟩:=Ay.BV (V:=Value.string) (fun _=>rfl) Z.out q;obtain⟨v,k⟩:∃ v,v=z.Bl[d]:=⟨_,rfl⟩
   rw[<- k] at ai;have J:Hid (v∈z.Bl):=Lh (by rw[k];exact Br q);have bi:Hid (z.Bl.take (d+1)=z.Bl.take d++[v]):=Lh (by rw[AP q,k]);clear k bn q;have ar:base<=wr.heap.size:=AV az.out H.out.size;have P:=Lh (ay.out wr p v D.out ar (bc.out v J.out));clear ar;go_upto_region 6 with(fail)
   refine P.out.mono ?_;rintro K av ⟨o,bt,ab,cc,l,L,rfl,ae,ac,am,s,ad,N⟩;have be:=Lh ae;have T:=Lh ac;have bd:=Lh am;have F:=Lh s;have E:=Lh ad;have bh:=Lh (Yt (size:=1) (fun _=>rfl) (by decide) Z.out N D.out.mp.lW);have I:=Lh (H.out.AJ N fun _ _ a=>a);clear ae ac am s ad N ai P;go_upto_region 6 with(fail)
   have s:=F.out;have y:Hid (∀ W,Ay Value.string W W.heap.size 1 o l->Calls Tryz.prog 287 #[.slice o bt ab,.string n] W (Rt (.bool (Jy n l)) fun bu=>W=bu)):=Lh fun W t=>by have:=T.out;subst this;exact RQ o ab _ l n W (by have:=bd.out;omega) t
   rcases s with⟨rfl,hF⟩|⟨rfl,an⟩
   ·have S:=Lh hF;clear hF F;have Y:Hid (Ay Value.string av av.heap.size 1 o l):=Lh (Ay.Ea (V:=Value.string) (fun _=>rfl) (by have:=be.out;rw[<- T.out] at this;exact this));generalize al:Jy n l=bs at y;have U:=Lh al;clear al;rcases bs with _|_
    ·go_wp2_with (go_at_call 287;refine(y.out _ Y.out).mono ?_;rintro K bx ⟨rfl,rfl⟩);go_ret2;exact⟨false,0,L,rfl,.inl ⟨rfl,fun a=>(by cases a),fun _=>⟨v,J.out,fun a=>KU.1 U.out ((S.out.2 _).2 (by rw[<- aa.out];exact a))⟩⟩,E.out,I.out⟩
    ·go_wp2_with (go_at_call 287;refine(y.out _ Y.out).mono ?_;rintro K bx ⟨rfl,rfl⟩);go_roundg (gk-1)
     case measure=>omega
     case rel =>
      refine⟨d+1,L,by omega,by go_num,Lh fun x hx=>?_,E,bh,I⟩;rw[bi.out] at hx;rcases Bd.1 hx with a|a
      ·exact Q.out x a
      ·rw[Ai.1 a];exact(S.out.2 _).1 (JU.1 U.out)
   ·have bf:=Lh an;clear an F;go_wp2;go_ret2;exact⟨false,12,L,rfl,.inr ⟨rfl,v,J.out,bf.out⟩,E.out,I.out⟩
  ·have br:¬(d:Int)<(e:Int):=by omega
   obtain rfl:d=e:=by omega
   go_wp2;go_ret2;refine⟨true,0,p,rfl,.inl ⟨rfl,fun _ v k=>?_,fun a=>(by cases a)⟩,D.out,H.out⟩;have:=Q.out;rw[Bt (by have:=X.out;omega)] at this;rw[aa.out];exact this v k
end

section
variable {w W W':Bc}
def Hg (Z:List Ed):Nat:=(Z.map fun a=>a.c.Bl.length).sum
theorem PE {Z:List Ed} {j:Nat} {z:Ed} (a:Z.take (j+1)=Z.take j++[z]):Hg (Z.take (j+1))=Hg (Z.take j)+z.c.Bl.length:=by
 unfold Hg;rw[a,Bw,List.sum_append];simp
theorem Na {Z:List Ed} {j:Nat}:Hg (Z.take j)<=Hg Z:=by
 have a:Z=Z.take j++Z.drop j:=(EW j Z).symm;have:Hg Z=Hg (Z.take j)+Hg (Z.drop j):=by
  unfold Hg;rw[<- List.sum_append,<- Bw,EW]
 omega
theorem U4 (A E:Option Addr) (k j x b:Nat) (Z:List Ed) (w:Bc) (h:∀ z∈Z,Cn z.c) (N:Z.length<=100) (q:Dt w A Z) (C:j+Hg Z<=400) (L:1<=b) (M:b<=5000) :
  Calls Tryz.prog 280 #[.slice E j x,.slice A Z.length k,zI (b:Int)] w (Rt zO (Au w)):=by
 have F:=Lh fun W (g:Au w W) z (y:z∈Z)=>Ku z.c z.A z.k W (h z y) ((q.AB g).s z y)
 have H:=Lh q;have t:=Lh C;obtain⟨d,p⟩:∃ d,d=Z.length:=⟨_,rfl⟩
 have G:=Lh p;have af:(d:Int)<=100:=by omega
 have Y:decide ((b:Int)<1)=false:=by rw[Ag];omega
 have aa:decide ((5000:Int)<(b:Int))=false:=by rw[Ag];omega
 rw[<- p];clear h q C N p L M;go_in;go_wp2;go_loopg [7,14] d fun gk Q O wr=>∃ a ak:Nat,a+gk=d/\O=zI a/\Q=zI (ak:Int)/\Hid (ak=j+Hg (Z.take a))/\Hid (Au w wr)
 case atStart=>exact⟨0,j,by omega,rfl,rfl,Lh (by simp[Hg]),Lh (Aa _ _)⟩
 case round =>
  obtain⟨a,ak,ad,rfl,rfl,u,g⟩:=hrel;have ag:(ak:Int)<=400:=by have:=u.out;have:=t.out;have:=Na (Z:=Z) (j:=a);omega
  by_cases ae:a<d
  ·have l:a<Z.length:=by have:=G.out;omega
   obtain⟨f,i,rfl,K,c⟩:=(H.out.AB g.out).cells l;obtain⟨z,h⟩:∃ z,z=Z[a]:=⟨_,rfl⟩
   have D:z∈Z:=by rw[h];exact Br l
   have I:Hid (Z.take (a+1)=Z.take a++[z]):=Lh (by rw[AP l,h]);rw[<- h] at c;have P:(a:Int)<(d:Int):=by omega
   have R:Cl wr f (i+a*7) (zI z.c.kind):=c 0 (by omega);have S:Cl wr f (i+a*7+1) (zU z.c.Aq):=c 1 (by omega);have x:Cl wr f (i+a*7+2) (.string z.c.Ad):=c 2 (by omega);have T:Cl wr f (i+a*7+3) (.slice z.A z.c.Bl.length z.k):=c 3 (by omega);have U:Cl wr f (i+a*7+4) (zI z.c.BX):=c 4 (by omega);have V:Cl wr f (i+a*7+5) (zI z.c.till):=c 5 (by omega);have X:Cl wr f (i+a*7+6) (zI z.c.AO):=c 6 (by omega);clear h c K l;have r:=Lh fun W (g:Au w W)=>F.out W g z D
   have B:Cu z.c z.A z.k=#[zI z.c.kind,zU z.c.Aq,.string z.c.Ad,.slice z.A z.c.Bl.length z.k,zI z.c.BX,zI z.c.till,zI z.c.AO]:=rfl;have m:Hid (AX (wr.alloc (.cells (Cu z.c z.A z.k) 31)) wr.heap.size 31 (Cu z.c z.A z.k)):=Lh (AX.new wr _ _);have n:=Lh (g.out.alloc (.cells (Cu z.c z.A z.k) 31));rw[B] at r m n;have v:Hid (ak+z.c.Bl.length=j+Hg (Z.take (a+1))):=Lh (by rw[PE I.out];have:=u.out;omega);have ah:(ak:Int)+(z.c.Bl.length:Int)<=400:=by have:=v.out;have:=t.out;have:=Na (Z:=Z) (j:=a+1);omega
   clear B D;go_upto_region 5 with(fail)
   go_wp2_with (first
    |(refine AA rfl (.tmp 9) rfl rfl m.out Tryz.underlying31 rfl Cg ?_)
    |(go_at_call 111;refine(r.out _ n.out).mono ?_;rintro e ai ⟨rfl,o⟩;have J:=Lh (n.out.to o);have aj:=(m.out.Ab o id).cell 3;clear o))
   go_roundg (gk-1)
   case measure=>omega
   case rel=>exact⟨a+1,ak+z.c.Bl.length,by omega,by go_num,by go_num,v,J⟩
  ·have P:¬(a:Int)<(d:Int):=by omega
   have ab:decide ((400:Int)<(ak:Int))=false:=by rw[Ag];omega
   go_wp2;go_ret;exact⟨rfl,g.out⟩
end

def Oj (R:List Dj) (c:Ca):Prop:=∀ a∈c.Bl,Fv R a (C8 [c.Aq])
def Cz (roots:List Dj) (C:List Ca) (acc:List Nat):List Dj:=roots++acc.flatMap fun i=>((C[i]?).map Gr).getD []
structure KM (roots:List Dj) (C:List Ca) (acc:List Nat):Prop where
 nd:acc.Nodup
 lt:∀ i∈acc,i<C.length
 back:∀ q i,acc[q]?= some i->∃ c,C[i]?= some c/\Oj (Cz roots C (acc.take q)) c
section
variable {w W W':Bc} {roots R:List Dj} {C:List Ca} {acc:List Nat} {i:Nat} {c:Ca}
theorem Sr (a:C[i]?= some c):Cz roots C (acc++[i])=Cz roots C acc++Gr c:=by
 unfold Cz;rw[Fw,BJ];simp[a]
theorem KM.nil:KM roots C []:=⟨List.nodup_nil,fun i a=>(by cases a),fun b i a=>(by simp at a)⟩
theorem KM.snoc (d:KM roots C acc) (f:C[i]?= some c) (h:i∉acc) (b:Oj (Cz roots C acc) c):KM roots C (acc++[i]):=by
 refine⟨?_,fun e a=>?_,fun j e a=>?_⟩
 ·rw[List.nodup_append];exact⟨d.nd,by simp,fun k ha l b g=>h (by rw[Ai] at b;rw[<- b,<- g];exact ha)⟩
 ·rcases Bd.1 a with a|a
  ·exact d.lt e a
  ·rw[Ai.1 a];exact(AC.1 f).1
 ·rcases JP.1 a with a|⟨rfl,rfl⟩
  ·have hq:=(AC.1 a).1;rw[Fx (by omega)];exact d.back j e a
  ·rw[Ff]
   ·exact⟨c,f,b⟩
   ·rfl
theorem Xh {e : Type} (g:e->Nat):∀ {L M:List e},L.Nodup->(∀ v∈L,v∈M)->(L.map g).sum<=(M.map g).sum
 |[],_,_,_=>EN _
 |v::L,M,b,c=>by
  rw[Gj] at b;obtain⟨A,B,rfl⟩:=List.append_of_mem (c v (by simp));have:=Xh g (L:=L) (M:=A++B) b.2 fun f d=>by
   have a:=c f (Dn _ d);rw[Bd,BI] at a;rw[Bd];rcases a with a|rfl|a
   ·exact .inl a
   ·exact Bv d b.1
   ·exact .inr a
  simp only[Bw,Dm,List.sum_append,List.sum_cons] at this ⊢;omega
theorem Yr {b : Type} (g:b->Nat):∀ L:List b,((List.range L.length).map fun i=>((L[i]?).map g).getD 0)=L.map g:=fun L=>by
 apply List.ext_getElem
 ·simp
 ·intro i c a;simp only[Be] at a;simp[Ah a]
theorem OA (a:KM roots C acc):(Cz roots C acc).length<=roots.length+(C.map fun c=>c.Bl.length).sum:=by
 unfold Cz;rw[Ap,List.length_flatMap];have b:(acc.map fun i=>(((C[i]?).map Gr).getD []).length)=acc.map fun i=>((C[i]?).map fun c=>c.Bl.length).getD 0:=by
  apply List.map_congr_left;intro i _;rcases C[i]? with _|c
  ·rfl
  ·simp[Gr]
 have d:=Xh (fun i=>((C[i]?).map fun c=>c.Bl.length).getD 0) (L:=acc) (M:=List.range C.length) a.nd fun f e=>FQ.2 (a.lt f e)
 rw[Yr] at d;rw[b];omega
theorem Jt {r:Dj} (a:r∈Cz roots C acc):r∈roots∨∃ i∈acc,∃ c,C[i]?= some c/\r∈Gr c:=by
 unfold Cz at a;rcases Bd.1 a with a|a
 ·exact .inl a
 ·obtain⟨i,e,b⟩:=List.mem_flatMap.1 a;rcases d:C[i]? with _|c
  ·rw[d] at b;simp at b
  ·rw[d] at b;exact .inr ⟨i,e,c,d,by simpa using b⟩
theorem R4:∀ x,∀ u∈(FH x).cells.toList,u.oneCell'=true:=fun x u a=>by
 have:(FH x).cells.toList=[.string x.BX,.string x.Kn]:=rfl;rw[this] at a;simp only[BI,CW,or_false] at a;rcases a with rfl|rfl<;>rfl
theorem Vz (a:Addr) (c:Nat) (l:List Dj) (w:Bc) (x:l.length<=100000) (i:Ay FH w w.heap.size 2 (some a) l) :
  Calls Tryz.prog 281 #[.slice (some a) l.length c] w fun e w'=>∃ d f,e= .returned (.slice d l.length f)/\w'.ownsRow w.heap.size 381 2 (.slice d l.length f) l.length (BN FH l)/\Au w w':=by
 obtain⟨t,n,q,r,s⟩:=info_parts K9;have hq:=fun W=>Lib.run_eql_slice_nil (P:=Tryz.prog) W 334 381 (some a) l.length c 0 0 Tryz.underlying334
 have g:=IG w w.heap.size 381 2 (AY _);have o:=i.below (w':=w.alloc (.cells #[] 381)) fun j h=>Below.heap_alloc w _ j h
 have p:w.heap.size<=(w.alloc (.cells #[] 381)).heap.size:=by simp
 clear i;go_in;go_wp2_with (at_builtin;refine ER (V:=FH) rfl (.tmp 5) (.tmp 6) 334 rfl w.heap.size 381 t _ 2 32 Tryz.underlying334 n q r s rfl (by omega) (fun _=>rfl) R4 _ _ _ rfl g _ (some a) _ c l rfl rfl o (by unfold maxLen;omega) (by omega) p ?_;intro y z b m;rw[Bz,BU] at b;obtain⟨u,v,rfl⟩:=BD b);go_ret;exact⟨_,_,rfl,b,((Aa _ w).alloc _).grown m fun j k h=>by have:=BQ g k;omega⟩
end

end Go.Proofs.YtcjcndnjpedniaaGreat
