/- A part of the proof of TopUsers. -/
import Derived.Test.YtcjcndnjpedniaaGreatB33
namespace Go.Proofs.YtcjcndnjpedniaaGreat
set_option linter.all false
set_option maxRecDepth 100000
set_option maxHeartbeats 8000000
open Go.RowKit
section
variable {x:Option Nat} {cs cs':List Eb} {o o1 o2:Nat->Nat} {w W W1:Bc} {A:Nat->Prop} {n:Nat} {v:Value} {ob:Option DZ}
theorem ED.add (h:ED cs W o) (d:Eb) (A:Nat->Prop) (j:∀ k,A k->o k=0/\k<W.heap.size) (m:d.P W A):∃ f,ED (cs++[d]) W f/\(∀ k,¬A k->f k=o k)/\∀ k,A k->f k=cs.length+1:=by
 classical
 refine⟨fun k=>if A k then cs.length+1 else o k,⟨fun c g a=>?_,fun k b=>?_⟩,fun k b=>Bg b,fun k b=>AQ b⟩
 ·rcases Co c cs.length with e|e
  ·rw[Cx e] at a;refine g.wider (h.p c g a) fun k l=>?_
   show(if A k then _ else _)=_;rw[Bg fun ha=>by have:=(j k ha).1;omega];exact l
  ·rw[Cq e] at a;have n:c=cs.length:=by
    rcases Co (c-cs.length) 1 with i|i
    ·omega
    ·rw[En (by simpa using i)] at a;cases a
   subst n;rw[FT] at a;cases a;exact d.wider m fun k b=>AQ b
 ·show(if A k then _ else _)=0;rw[Bg fun ha=>by have:=(j k ha).2;omega];exact h.z k b
theorem Ew.add (a:Ew x o o1 w W) (d:∀ k,¬A k->o2 k=o1 k) (b:∀ k,A k->w.heap.size<=k):Ew x o o2 w W:=⟨a.t,fun k c hF=>by rw[d k fun ha=>by have:=b k ha;omega];exact a.z k c hF⟩
theorem ED.U5 (b:ED cs W o) (a : Nat->Nat) (f:a 0=0) (ba : ∀ j c,cs'[j]?= some c->∃ i,cs[i]?= some c/\a (i+1)=j+1):ED cs' W (fun k=>a (o k)) :=
 ⟨fun j c g=>by
  obtain⟨i,h,e⟩:=ba j c g;exact c.wider (b.p i c h) fun k d=>by show a (o k)=j+1;rw[d,e],fun k d=>by show a (o k)=0;rw[b.z k d,f]⟩
theorem Ew.U5 (b:Ew x o o1 w W) (a : Nat->Nat) (c:a 0=0):Ew x o (fun k=>a (o1 k)) w W:=⟨b.t,fun k d hF=>by show a (o1 k)=0;rw[b.z k d hF,c]⟩
theorem NF.Ab {S:Nat->Prop} (g:NF n w v ob) (y:Am S w W) (c:∀ k,n<=k->Mr w k->¬S k):NF n W v ob:=by
 cases ob with
 |none=>exact g
 |some x =>
  obtain⟨d,a,r,e,l,f,m,s,t,u,b,h,i,j⟩:=g;obtain⟨_,o⟩:=b.b1;obtain⟨_,p⟩:=b.b2;obtain⟨_,q⟩:=b.b3;exact⟨d,a,r,e,l,f,m,s,t,u,b.far y (c d h ⟨_,_,o,.inl rfl⟩) (c e i ⟨_,_,p,.inr (.inl rfl)⟩) (c f j ⟨_,_,q,.inr (.inr rfl)⟩),h,i,j⟩
theorem NF.AB (a:NF n w v ob) (b:Au w W):NF n W v ob:=a.Ab b fun _ _ _ a=>a
theorem NF.rH {F:Nat->Prop} (f:NF n w v ob) (hF:∀ k,n<=k->Mr w k->F k):Jm w F v ob:=by
 cases ob with
 |none=>exact f
 |some x =>
  obtain⟨c,a,m,d,g,e,h,o,p,q,b,r,s,t⟩:=f;obtain⟨_,i⟩:=b.b1;obtain⟨_,j⟩:=b.b2;obtain⟨_,l⟩:=b.b3;exact⟨c,a,m,d,g,e,h,o,p,q,b,hF c r ⟨_,_,i,.inl rfl⟩,hF d s ⟨_,_,j,.inr (.inl rfl)⟩,hF e t ⟨_,_,l,.inr (.inr rfl)⟩⟩
theorem NF.slice (d:NF n w v ob):∃ A m c,v= .slice A m c:=by
 cases ob with
 |none=>obtain⟨A,c,b⟩:=d;exact⟨_,_,_,b⟩
 |some x=>obtain⟨e,a,c,_,_,_,_,_,_,b,_⟩:=d;exact⟨_,_,_,b⟩
theorem Eb.AB (c:Eb) {F:Nat->Prop} (a:c.P w F) (b:Au w W):c.P W F:=c.Ab a b fun _ _ a=>a
theorem WN {l r:List Eb} {j:Nat} {c:Eb} (a:l[j]?= some c):(l++r)[j]?= some c:=by
 rw[Cx (AC.1 a).1];exact a
theorem Po {l r:List Eb} (j:Nat) {c:Eb} (a:r[j]?= some c:=by rfl):(l++r)[l.length+j]?= some c:=by
 rw[Cq (by omega),show l.length+j-l.length=j by omega];exact a
theorem Mr.ne {k g:Nat} {t:TypeId} {vs:Array Value} (c:Mr w k) (a:AX w g t vs) (d:t≠43:=by decide) (e:t≠40:=by decide) (f:t≠27:=by decide):k≠g:=by
 obtain⟨h,cs',b,ht⟩:=c;rcases ht with rfl|rfl|rfl
 ·exact AX.GJ b a d.symm
 ·exact AX.GJ b a e.symm
 ·exact AX.GJ b a f.symm
end
section
variable {P:Program} {md:Region.Mode} {ops:Array Oper} {Q:Exit->Act->Bc->Prop} {S:Bc->Prop} {z n:Nat} {l:Array Bool} {a:Act} {w:Bc}
theorem rJ (i j k:Nat) {f g ok:Oper} (r:ops[i]?= some f) (s:ops[j]?= some g) (hk:ops[k]?= some ok)
  (o:∀ b:Act->Bc->Prop,Shut (∀ a w,S w->(S w->F9 P md ops Q S z n (l.setIfInBounds i true) a w)->b a w)->if Region.wanted f (yielded ops a.tmps)=true then Oper.wp P f a w b Q else b (a.put f.dst undef) w)
  (p:∀ b:Act->Bc->Prop,Shut (∀ a w,S w->(S w->F9 P md ops Q S z n (l.setIfInBounds j true) a w)->b a w)->if Region.wanted g (yielded ops a.tmps)=true then Oper.wp P g a w b Q else b (a.put g.dst undef) w)
  (q:∀ b:Act->Bc->Prop,Shut (∀ a w,S w->(S w->F9 P md ops Q S z n (l.setIfInBounds k true) a w)->b a w)->if Region.wanted ok (yielded ops a.tmps)=true then Oper.wp P ok a w b Q else b (a.put ok.dst undef) w)
  (m:Region.ready md ops l=[i,j,k]:=by kernel_rfl):F9 P md ops Q S z (n+1) l a w:=by
 refine⟨(fun h=>by rw[m] at h;cases h),fun t hq=>?_⟩;rw[m,BI,BI,Ai] at hq;rcases hq with rfl|rfl|rfl
 ·exact wpOp_step r fun b d=>o b fun a w c e=>d a w ⟨.inr c,e c⟩
 ·exact wpOp_step s fun b d=>p b fun a w c e=>d a w ⟨.inr c,e c⟩
 ·exact wpOp_step hk fun b d=>q b fun a w c e=>d a w ⟨.inr c,e c⟩
end
section
variable {x:Option Nat} {cs:List Eb} {o:Nat->Nat} {w:Bc} {S:List Led.Vl} {M:List Led.Made} {T:List Int}
def nP (x:Option Nat) (cs:List Eb) (jb jd d g half:Nat) (i:Int) (ob:Option DZ) (S:List Led.Vl) (M:List Led.Made) (T:List Int) (w:Bc) (o:Nat->Nat) (e:Ending) (w':Bc):Prop :=
 ∃ (a:Fb) (b j h:Nat) (c:List Led.Vl) (f:Nat->Nat),e= .returned (.tuple #[zP a.nb,zO])/\(a.num=i/\a.Kh=0/\a.key=8293+50*i/\a.kb=d/\a.boot=1/\a.ob=ob/\a.L=[]/\a.C=[]/\a.R=[])/\Ik S c (8193+i,Dy (Db (Dx i 0 1))) /\
  ED ((cs.set jb (Eg d c M T)).set jd (FZ g a.jp 2 (1-half))++[Dv a,Dz b a.st 60 [Dx i 0 1],Hy b a.tb j 8 [] [],EP a.ca h 40 0 []]) w' f/\Ew x o f w w'/\w.heap.size<=b/\b<=w'.heap.size
theorem Tm {jb jd z G half n:Nat} {i:Int} {now:List UInt8} {ob:Option DZ} (h:ED cs w o) (K:cs[jb]?= some (Eg z S M T)) (af:cs[jd]?= some (II G now)) (ey:jb≠jd) (aw:0<=i) (ax:i<=2) (hi:half<=1) (ex:n<=32) (ef:now.take 11=IC 1 half n) (fd:(now.drop ((1+half*32)*32)).take n=FM 0 ob) (hx:∀ x,ob=some x->G9 x) (ev:(FM 1 ob).length<=32) (eh:S.length<1000) :
  Calls Tryz.prog 49 #[zI i,zO,zP G,zP z] w (nP x cs jb jd z G half i ob S M T w o):=by
 obtain⟨ct,cv,cu,bd,eb,ec,ed,ee⟩:=h.p jd _ af;have ft:=Lh (Rf bd 1 half n (by omega) hi ex ef (FM 0 ob) fd);have fv:Hid (∀ W,Calls Tryz.prog 84 #[.string (Dy (FM 0 ob))] W (lF W 0 ob)):=Lh fun W=>by
  cases ob with
  |none=>exact U0 0 _ W (by omega) (by omega) rfl
  |some y=>exact U1 0 _ W (by omega) (by omega) (hx y rfl) rfl
 have fs:=Lh fun(A:Option Addr) (m u:Nat) (W:Bc) (hn:Ll W (.slice A m u) ob)=>MC 1 A m u ob W (by omega) (by omega) hn hx
 have fn:half+(1-half)=1:=by omega
 have fr:=Lh fun(W:Bc) (r:Nat) (ie:BB) (cm:Ef W G ct cv cu now) (hg:AX W r 183 (Ij G (1:Nat) half ie))=>Mw (half':=1-half) (x:=1+(1-half)*32) (m:=2) cm hg fn rfl rfl (by omega) (Dy (FM 1 ob)) (by rw[E5];exact ev) (by rw[E5];exact Qm)
 have fw:=Lh fun W=>dO 60 W (by omega) (by omega)
 have fx:=Lh fun W=>Ya 8 W ⟨by omega,by omega⟩
 have fq:=Lh fun W=>XZ 40 W ⟨by omega,by omega⟩
 have fu:=Lh fun W=>Ox i 1 W aw ax (by omega) (by omega)
 have an:=Lh fun W=>Nc i W aw ax
 have L:=Lh fun W=>NT i W aw ax
 have eu:Ey (8292+50*i+1):=⟨by omega,by omega⟩
 have R:Hid (∀ (W:Bc) (g k:Nat),AX W g 25 #[zU (8292+50*i+1)]->Calls Tryz.prog 91 #[zS g 0 1 k] W (Rt (.string (C8 [8292+50*i+1])) (Au W))):=Lh fun W g k ji=>KW [8292+50*i+1] rfl rfl (by simp) (fun x hx=>by rw[Ai.1 hx];exact eu) W ji
 have dj:=Lh (Lt (t:=0) (bt:=1) aw ax (by omega) (by omega) (by omega) (by omega));have io:decide (i<0)=false:=dF;have ip:decide (3<=i)=false:=dF;have gb:=Lh h;have fy:=Lh K;have ik:=Lh af;have di:=Lh ey;have gl:=Lh eh;have fz:=Lh bd;have Z:=Lh (Bf eb (Bf ec (Bf ed ee)));have il:=Lh (Bf aw ax);have gf:=Lh bd.lt;clear h K af ey eh bd eb ec ed ee ef fd hx ev ex fn eu;go_in;go_upto_region 4 with(go_at_call 47;refine ft.out.mono ?_;rintro jf iy ⟨r,rfl,ji,av,e⟩;have cz:=Lh ji;have dk:=Lh av;have db:=Lh e;clear ji av e)
 go_upto_region 7 with(first
  |(go_at_call 85;refine(aM cz.out).mono ?_;rintro jf Y ⟨rfl,rfl⟩)
  |(go_at_call 84;refine(fv.out _).mono ?_;rintro jf Y ⟨v,rfl,co,e⟩;obtain⟨A,jk,u,rfl⟩:=co.slice;have gr:=Lh co;have gc:=Lh (cz.out.Ab e id);have dz:=Lh db.out.size;have dc:=Lh (db.out.to e);clear co e))
 have aa:Hid (AX (Y.alloc (.cells #[zO,.slice A jk u] 36)) Y.heap.size 36 #[zO,.slice A jk u]):=Lh (AX.new Y _ _);have ba:Hid (w.heap.size<=Y.heap.size):=Lh dc.out.size;have dd:=Lh (dc.out.alloc (.cells #[zO,.slice A jk u] 36));have br:=Lh (gc.out.alloc (.cells #[zO,.slice A jk u] 36));have dw:=Lh (gr.out.AB ((T0 Y).alloc (.cells #[zO,.slice A jk u] 36)));generalize Y.alloc (.cells #[zO,.slice A jk u] 36)=am at aa dd br dw ⊢;generalize Y.heap.size=C at aa ba ⊢;have ay:Cl am C 0 zO:=aa.out.cell 0;have ig:=aa.out.frozen 0;go_upto_region 12 with(fail)
 have bf:Am (fun q=>q=C) am (am.setCell (zA C 0) (zI 1)):=(Aa (fun q=>q=C) am).setCell (p:=zA C 0) (fun _=>rfl) _;have bw:Hid (AX (am.setCell (zA C 0) (zI 1)) C 36 #[zI 1,.slice A jk u]):=Lh (aa.out.Dw 0 (zI 1));have da:=Lh (br.out.Ab bf (AX.GJ br.out aa.out (by decide)));have de:=Lh (dd.out.AJ bf fun q hq jf=>by have:=ba.out;omega);have ch:=Lh (dw.out.Ab bf fun k _ K=>K.ne aa.out);clear ay ig bf;generalize am.setCell (zA C 0) (zI 1)=jc at bw da de ch ⊢;go_upto_region 13 with(first
  |(refine AA rfl (.tmp 12) rfl rfl bw.out Tryz.underlying36 rfl Ep ?_)
  |(go_at_call 46;refine(fs.out _ _ _ _ ch.out.at_).mono ?_;rintro jf je ⟨rfl,e⟩;have dm:=Lh (bw.out.Ab e id);have bs:=Lh (da.out.Ab e id);have gs:=Lh (ch.out.AB e);have df:=Lh (de.out.to e);clear e))
 go_upto_region 16 with(go_at_call 48;refine(fr.out _ _ _ (fz.out.AB df.out) bs.out).mono ?_;rintro jf J ⟨rfl,es,et,l⟩;have ga:=Lh es;have bu:=Lh et;have ce:=Lh l;clear es et l)
 have gg:Hid (r<J.heap.size):=Lh bu.out.lt;have cn:∀ k,w.heap.size<=k->k≠r->¬(Ha ct cv cu k∨k=r):=fun k e av jf=>by
  have:=gf.out;rcases jf with(jf|jf|jf)|jf<;>omega
 have ho:w.heap.size<=C:=ba.out;have bx:=Lh (dm.out.Ab ce.out (cn C ba.out (AX.GJ dm.out bs.out (by decide))));have fm:=gs.out.Ab ce.out fun k e K=>cn k (AV dz.out e) (K.ne bs.out)
 have gt:Hid (Jm J (fun k=>w.heap.size<=k/\k<J.heap.size/\k≠r) (.slice A jk u) ob):=Lh (fm.rH fun k e K=>⟨AV dz.out e,by obtain⟨_,_,K,_⟩:=K;exact K.lt,K.ne bu.out⟩);have ep:Am (fun k=>o k=jd+1) w J:=(df.out.mono fun _ _ h=>h.elim).AJ ce.out fun k e jf=>by
  have:=dk.out;rcases jf with(rfl|rfl|rfl)|rfl
  ·exact Z.out.2.1
  ·exact Z.out.2.2.1
  ·exact Z.out.2.2.2
  ·omega
 obtain⟨o1,ei,eo,hA1,er⟩:=gb.out.mX (x:=x) jd (FZ G r 2 (1-half)) (fun k=>k=r) ep ⟨ct,cv,cu,_,_,ga.out,bu.out,.inl Z.out.1,.inl Z.out.2.1,.inl Z.out.2.2.1,.inl Z.out.2.2.2,.inr ⟨rfl,dk.out,gg.out⟩⟩;have ac:=Lh ei;have dt:=Lh eo;have gv:=Lh er;have bo:Hid ((cs.set jd (FZ G r 2 (1-half)))[jb]?= some (Eg z S M T)):=Lh (FX fy.out di.out.symm);clear ei eo hA1 er ep fm cn ho;go_upto_region 18 with(fail)
 refine GZ (fun W=>Cl W C 0 (zI 1)/\AX W C 36 #[zI 1,.slice A jk u]) ⟨bx.out.cell 0,bx.out.drew⟩ fun c=>?_
 have dn:=Lh bx.out.drew;have dg:Hid (Au J J.drew):=Lh ((T0 J).drew);have fo:J.drew.heap.size=J.heap.size:=rfl;have ci:=Lh fo;clear fo;generalize J.drew=E at dn dg ci c ⊢;refine hq 4 80 c ?_;refine hq 5 81 c ?_;refine hq 6 82 c ?_;refine hq 7 83 c ?_;refine hq 8 84 c ?_;refine hq 10 86 c ?_;refine hq 11 87 c ?_;refine hq 12 88 (hx:=fun W cm=>Ce (.tmp 12) rfl rfl cm.2 Tryz.underlying36 rfl Ep) c ?_;refine Gg 0 fun d b=>?_
 go_simp;refine(fw.out _).mono ?_;rintro jf bn ⟨rfl,rfl⟩;have ap:Hid ((Dz E.heap.size (E.heap.size+3) 60 []).P (IV E 60) fun k=>E.heap.size<=k/\k<(IV E 60).heap.size):=Lh ⟨[],rfl,YF E 60⟩;have dh:=Lh (dg.out.to (LH E 60));have bb:=Lh (dn.out.Ab (LH E 60) id);have aj:Hid (E.heap.size<=(IV E 60).heap.size):=Lh (LH E 60).size;generalize IV E 60=bn at ap dh bb aj ⊢;obtain⟨H,fh⟩:∃ s,s=E.heap.size+3:=⟨_,rfl⟩
 rw[<- fh] at ap ⊢;clear fh;generalize E.heap.size=N at ap ci aj ⊢;go_wp2;refine b.out _ _ ⟨bb.out.cell 0,bb.out⟩ fun c=>?_
 clear b d;refine Gg 1 fun d b=>?_
 go_simp;refine(fx.out _).mono ?_;rintro jf al (⟨hf,_⟩|⟨_,D,cr,rfl,bg,e,ht,ew⟩)
 ·exfalso;omega
 obtain⟨ij,cj,be⟩:=(bg _ (AY _)).row;have cf:Hid ((Hy N D cr 8 [] []).P al fun k=>bn.heap.size<=k/\k<al.heap.size):=Lh ⟨[],rfl,bg N aj.out,⟨ht,cj.lt⟩,⟨ew,(bg _ (AY _)).lt.2⟩,⟨ij,cj,Du be aj.out,fun g U=>⟨BQ be U,Gd be U⟩⟩,fun y hu=>by cases hu⟩;have cb:=Lh (Eb.AB _ ap.out e);have gd:=Lh (dh.out.to e);have bz:=Lh (bb.out.Ab e id);have ca:Hid (bn.heap.size<=al.heap.size):=Lh e.size;clear bg e ht ew cj be ap;generalize bn.heap.size=bl at cb cf aj ca ⊢;go_wp2;refine b.out _ _ ⟨bz.out.cell 0,bz.out⟩ fun c=>?_
 clear b d;refine Gg 2 fun d b=>?_
 go_simp;refine(fq.out _).mono ?_;rintro jf F (⟨hf,_⟩|⟨_,B,cq,rfl,bh,e,fb,fc⟩)
 ·exfalso;omega
 have bq:Hid ((EP B cq 40 0 []).P F fun k=>al.heap.size<=k/\k<F.heap.size):=Lh ⟨bh,⟨fb,bh.lt.1⟩,⟨fc,bh.lt.2⟩⟩;have cc:=Lh (Eb.AB _ cb.out e);have cg:=Lh (Eb.AB _ cf.out e);have ge:=Lh (gd.out.to e);have ab:=Lh (bz.out.Ab e id);have dp:Hid (al.heap.size<=F.heap.size):=Lh e.size;clear e bh fb fc cb cf;generalize al.heap.size=bm at cc cg bq ca dp ⊢;go_wp2;refine b.out _ _ ⟨ab.out.cell 0,ab.out⟩ fun c=>?_
 clear b d;refine hq 3 79 c ?_;refine Gg 9 fun d b=>?_
 go_simp;refine(fu.out _).mono ?_;rintro jf ix ⟨rfl,rfl⟩;go_wp2;refine b.out _ _ ⟨ab.out.cell 0,ab.out⟩ fun c=>?_
 clear b d;refine hq 13 89 c ?_;refine hq 14 90 c ?_;refine Gg 15 fun d b=>?_
 go_simp;refine b.out _ _ ⟨(ab.out.alloc _).cell 0,ab.out.alloc _⟩ fun c=>?_
 clear b d;have ao:Hid (AX (F.alloc (.cells #[zP H,zP D,zP B,zI i,zO,zU (8292+50*i+1),.bool false,zP r,zP z,zI 1,.slice A jk u,zN,zN,zN] 72)) F.heap.size 72 #[zP H,zP D,zP B,zI i,zO,zU (8292+50*i+1),.bool false,zP r,zP z,zI 1,.slice A jk u,zN,zN,zN]):=Lh (AX.new F _ _);have ds:=Lh (Eb.AB _ cc.out ((T0 F).alloc (.cells #[zP H,zP D,zP B,zI i,zO,zU (8292+50*i+1),.bool false,zP r,zP z,zI 1,.slice A jk u,zN,zN,zN] 72)));have dv:=Lh (Eb.AB _ cg.out ((T0 F).alloc (.cells #[zP H,zP D,zP B,zI i,zO,zU (8292+50*i+1),.bool false,zP r,zP z,zI 1,.slice A jk u,zN,zN,zN] 72)));have bp:=Lh (Eb.AB _ bq.out ((T0 F).alloc (.cells #[zP H,zP D,zP B,zI i,zO,zU (8292+50*i+1),.bool false,zP r,zP z,zI 1,.slice A jk u,zN,zN,zN] 72)));have az:=Lh (ge.out.alloc (.cells #[zP H,zP D,zP B,zI i,zO,zU (8292+50*i+1),.bool false,zP r,zP z,zI 1,.slice A jk u,zN,zN,zN] 72));have dl:=Lh (ab.out.alloc (.cells #[zP H,zP D,zP B,zI i,zO,zU (8292+50*i+1),.bool false,zP r,zP z,zI 1,.slice A jk u,zN,zN,zN] 72));have cd:Hid (N=J.heap.size/\N<=bl/\bl<=bm/\bm<=F.heap.size/\F.heap.size<(F.alloc (.cells #[zP H,zP D,zP B,zI i,zO,zU (8292+50*i+1),.bool false,zP r,zP z,zI 1,.slice A jk u,zN,zN,zN] 72)).heap.size):=Lh ⟨ci.out,aj.out,ca.out,dp.out,ao.out.lt⟩;generalize F.alloc (.cells #[zP H,zP D,zP B,zI i,zO,zU (8292+50*i+1),.bool false,zP r,zP z,zI 1,.slice A jk u,zN,zN,zN] 72)=X at ao ds dv bp az dl cd c ⊢;clear cc cg bq;generalize F.heap.size=ai at ao bp cd ⊢;refine hq 16 15 c ?_;refine zw ?_;clear c;have gh:=Lh (ac.out.AB az.out);have gm:=Lh (dt.out.AB az.out);have cp:Cl X ai 5 (zU (8292+50*i+1)):=ao.out.cell 5;have ay:Cl X C 0 (zI 1):=dl.out.cell 0;have im:=Lh (Bf cp ay);go_upto_region 19 with(fail)
 go_cut [16] fun ii W=>∃ jg j,ii=zP jg/\Au X W/\AX W jg 31 #[zI 1,zU (8193+i),.string (C8 [8292+50*i+1]),zS j 0 1 1,zO,zI 4611686018427387904,zI 1]/\AX W j 27 #[.string (C8 [24577+i,40961])]/\X.heap.size<=jg/\X.heap.size<=j
 case first =>
  refine EQ 17 (S:=fun W=>Cl W ai 5 (zU (8292+50*i+1))/\Cl W C 0 (zI 1)) (by kernel_rfl) ⟨cp,ay⟩ fun c=>?_
  have jh:Hid (Au X X.drew):=Lh (Aa _ _).drew;generalize X.drew=O at jh c ⊢;have a:Hid (Ol O O []):=Lh ⟨Aa _ _,fun r av=>by cases av⟩;have f:=Lh c;refine zq 0 92 c ?_;refine zq 2 94 c ?_;refine zq 3 95 c ?_;refine zq 4 96 c ?_;refine zq 5 97 c ?_;refine zq 6 98 c ?_;refine zq 9 101 c ?_;refine zq 12 104 c ?_;refine zq 13 105 c ?_;refine zq 14 106 c ?_;refine rJ 1 7 16 rfl rfl rfl (fun d b=>?_) (fun d b=>?_) fun d b=>?_
  ·go_simp;refine(an.out _).mono ?_;rintro jf v ⟨rfl,e⟩;subst e;go_wp2;refine b.out _ _ ⟨Ae f.out.1 a.out.k,Ae f.out.2 a.out.k⟩ fun c=>?_
   clear b d;refine WH 7 16 rfl rfl (fun d b=>?_) fun d b=>?_
   ·go_simp;have a:=Lh (a.out.alloc 25 #[zU (8292+50*i+1)]);refine b.out _ _ ⟨Ae f.out.1 a.out.k,Ae f.out.2 a.out.k⟩ fun c=>?_
    clear b d;generalize O.alloc (.cells #[zU (8292+50*i+1)] 25)=u1 at a c ⊢;generalize O.heap.size=I at a ⊢;refine WH 8 16 rfl rfl (fun d b=>?_) fun d b=>?_
    ·go_simp;refine(R.out _ _ _ (a.out.b (I,25,#[zU (8292+50*i+1)]) (by simp)).1).mono ?_;rintro jf u2 ⟨rfl,e⟩;have a:=Lh (a.out.AB e);clear e;go_wp2;refine b.out _ _ ⟨Ae f.out.1 a.out.k,Ae f.out.2 a.out.k⟩ fun c=>?_
     clear b d;refine WH 10 16 rfl rfl (fun d b=>?_) fun d b=>?_
     ·go_simp;refine(L.out _).mono ?_;rintro jf u3 ⟨rfl,e⟩;have a:=Lh (a.out.AB e);clear e;go_wp2;refine b.out _ _ ⟨Ae f.out.1 a.out.k,Ae f.out.2 a.out.k⟩ fun c=>?_
      clear b d;refine WH 11 16 rfl rfl (fun d b=>?_) fun d b=>?_
      ·go_simp;have a:=Lh (a.out.alloc 27 #[.string (C8 [24577+i,40961])]);refine b.out _ _ ⟨Ae f.out.1 a.out.k,Ae f.out.2 a.out.k⟩ fun c=>?_
       clear b d;generalize u3.alloc (.cells #[.string (C8 [24577+i,40961])] 27)=u4 at a c ⊢;generalize u3.heap.size=j at a ⊢;refine zq 15 107 c ?_;refine zs 16 rfl fun d b=>?_
       go_simp;have a:=Lh (a.out.alloc 31 #[zO,zU 0,zE,zN,zO,zO,zO]);refine b.out _ _ ⟨Ae f.out.1 a.out.k,Ae f.out.2 a.out.k⟩ fun c=>?_
       clear b d;generalize u4.alloc (.cells #[zO,zU 0,zE,zN,zO,zO,zO] 31)=u5 at a c ⊢;generalize u4.heap.size=jg at a ⊢;refine zl fun d b=>?_
       rw[AQ (by rfl)];refine Ck (.tmp 16) (.tmp 107) rfl rfl rfl (a.out.b (jg,31,#[zO,zU 0,zE,zN,zO,zO,zO]) (by simp)).1 Cg rfl (by simp[Value.oneCell']) ?_;intro ji l jj;clear jj;rw[CZ (by rfl)];refine b.out _ _ ?_;clear b d;refine zd ?_;clear c;go_wp2;go_meet;exact⟨jg,j,rfl,jh.out.to (a.out.k.AJ l fun k e jf=>by have:=(a.out.b (jg,31,#[zO,zU 0,zE,zN,zO,zO,zO]) (by simp)).2;dsimp only at this;omega),ji,(a.out.b (j,27,#[.string (C8 [24577+i,40961])]) (by simp)).1.Ab l ((a.out.b (j,27,#[.string (C8 [24577+i,40961])]) (by simp)).1.GJ (a.out.b (jg,31,#[zO,zU 0,zE,zN,zO,zO,zO]) (by simp)).1 (show(27:Nat)≠31 from by decide)),AV jh.out.size (a.out.b (jg,31,#[zO,zU 0,zE,zN,zO,zO,zO]) (by simp)).2,AV jh.out.size (a.out.b (j,27,#[.string (C8 [24577+i,40961])]) (by simp)).2⟩
      ·go_simp;have a:=Lh (a.out.alloc 31 #[zO,zU 0,zE,zN,zO,zO,zO]);refine b.out _ _ ⟨Ae f.out.1 a.out.k,Ae f.out.2 a.out.k⟩ fun c=>?_
       clear b d;generalize u3.alloc (.cells #[zO,zU 0,zE,zN,zO,zO,zO] 31)=u6 at a c ⊢;generalize u3.heap.size=jg at a ⊢;refine zs 11 rfl fun d b=>?_
       go_simp;have a:=Lh (a.out.alloc 27 #[.string (C8 [24577+i,40961])]);refine b.out _ _ ⟨Ae f.out.1 a.out.k,Ae f.out.2 a.out.k⟩ fun c=>?_
       clear b d;generalize u6.alloc (.cells #[.string (C8 [24577+i,40961])] 27)=u7 at a c ⊢;generalize u6.heap.size=j at a ⊢;refine zq 15 107 c ?_;refine zl fun d b=>?_
       rw[AQ (by rfl)];refine Ck (.tmp 16) (.tmp 107) rfl rfl rfl (a.out.b (jg,31,#[zO,zU 0,zE,zN,zO,zO,zO]) (by simp)).1 Cg rfl (by simp[Value.oneCell']) ?_;intro ji l jj;clear jj;rw[CZ (by rfl)];refine b.out _ _ ?_;clear b d;refine zd ?_;clear c;go_wp2;go_meet;exact⟨jg,j,rfl,jh.out.to (a.out.k.AJ l fun k e jf=>by have:=(a.out.b (jg,31,#[zO,zU 0,zE,zN,zO,zO,zO]) (by simp)).2;dsimp only at this;omega),ji,(a.out.b (j,27,#[.string (C8 [24577+i,40961])]) (by simp)).1.Ab l ((a.out.b (j,27,#[.string (C8 [24577+i,40961])]) (by simp)).1.GJ (a.out.b (jg,31,#[zO,zU 0,zE,zN,zO,zO,zO]) (by simp)).1 (show(27:Nat)≠31 from by decide)),AV jh.out.size (a.out.b (jg,31,#[zO,zU 0,zE,zN,zO,zO,zO]) (by simp)).2,AV jh.out.size (a.out.b (j,27,#[.string (C8 [24577+i,40961])]) (by simp)).2⟩
     ·go_simp;have a:=Lh (a.out.alloc 31 #[zO,zU 0,zE,zN,zO,zO,zO]);refine b.out _ _ ⟨Ae f.out.1 a.out.k,Ae f.out.2 a.out.k⟩ fun c=>?_
      clear b d;generalize u2.alloc (.cells #[zO,zU 0,zE,zN,zO,zO,zO] 31)=u8 at a c ⊢;generalize u2.heap.size=jg at a ⊢;refine zs 10 rfl fun d b=>?_
      go_simp;refine(L.out _).mono ?_;rintro jf u9 ⟨rfl,e⟩;have a:=Lh (a.out.AB e);clear e;go_wp2;refine b.out _ _ ⟨Ae f.out.1 a.out.k,Ae f.out.2 a.out.k⟩ fun c=>?_
      clear b d;refine zs 11 rfl fun d b=>?_
      go_simp;have a:=Lh (a.out.alloc 27 #[.string (C8 [24577+i,40961])]);refine b.out _ _ ⟨Ae f.out.1 a.out.k,Ae f.out.2 a.out.k⟩ fun c=>?_
      clear b d;generalize u9.alloc (.cells #[.string (C8 [24577+i,40961])] 27)=u10 at a c ⊢;generalize u9.heap.size=j at a ⊢;refine zq 15 107 c ?_;refine zl fun d b=>?_
      rw[AQ (by rfl)];refine Ck (.tmp 16) (.tmp 107) rfl rfl rfl (a.out.b (jg,31,#[zO,zU 0,zE,zN,zO,zO,zO]) (by simp)).1 Cg rfl (by simp[Value.oneCell']) ?_;intro ji l jj;clear jj;rw[CZ (by rfl)];refine b.out _ _ ?_;clear b d;refine zd ?_;clear c;go_wp2;go_meet;exact⟨jg,j,rfl,jh.out.to (a.out.k.AJ l fun k e jf=>by have:=(a.out.b (jg,31,#[zO,zU 0,zE,zN,zO,zO,zO]) (by simp)).2;dsimp only at this;omega),ji,(a.out.b (j,27,#[.string (C8 [24577+i,40961])]) (by simp)).1.Ab l ((a.out.b (j,27,#[.string (C8 [24577+i,40961])]) (by simp)).1.GJ (a.out.b (jg,31,#[zO,zU 0,zE,zN,zO,zO,zO]) (by simp)).1 (show(27:Nat)≠31 from by decide)),AV jh.out.size (a.out.b (jg,31,#[zO,zU 0,zE,zN,zO,zO,zO]) (by simp)).2,AV jh.out.size (a.out.b (j,27,#[.string (C8 [24577+i,40961])]) (by simp)).2⟩
    ·go_simp;have a:=Lh (a.out.alloc 31 #[zO,zU 0,zE,zN,zO,zO,zO]);refine b.out _ _ ⟨Ae f.out.1 a.out.k,Ae f.out.2 a.out.k⟩ fun c=>?_
     clear b d;generalize u1.alloc (.cells #[zO,zU 0,zE,zN,zO,zO,zO] 31)=u11 at a c ⊢;generalize u1.heap.size=jg at a ⊢;refine zs 8 rfl fun d b=>?_
     go_simp;refine(R.out _ _ _ (a.out.b (I,25,#[zU (8292+50*i+1)]) (by simp)).1).mono ?_;rintro jf u12 ⟨rfl,e⟩;have a:=Lh (a.out.AB e);clear e;go_wp2;refine b.out _ _ ⟨Ae f.out.1 a.out.k,Ae f.out.2 a.out.k⟩ fun c=>?_
     clear b d;refine zs 10 rfl fun d b=>?_
     go_simp;refine(L.out _).mono ?_;rintro jf u13 ⟨rfl,e⟩;have a:=Lh (a.out.AB e);clear e;go_wp2;refine b.out _ _ ⟨Ae f.out.1 a.out.k,Ae f.out.2 a.out.k⟩ fun c=>?_
     clear b d;refine zs 11 rfl fun d b=>?_
     go_simp;have a:=Lh (a.out.alloc 27 #[.string (C8 [24577+i,40961])]);refine b.out _ _ ⟨Ae f.out.1 a.out.k,Ae f.out.2 a.out.k⟩ fun c=>?_
     clear b d;generalize u13.alloc (.cells #[.string (C8 [24577+i,40961])] 27)=u14 at a c ⊢;generalize u13.heap.size=j at a ⊢;refine zq 15 107 c ?_;refine zl fun d b=>?_
     rw[AQ (by rfl)];refine Ck (.tmp 16) (.tmp 107) rfl rfl rfl (a.out.b (jg,31,#[zO,zU 0,zE,zN,zO,zO,zO]) (by simp)).1 Cg rfl (by simp[Value.oneCell']) ?_;intro ji l jj;clear jj;rw[CZ (by rfl)];refine b.out _ _ ?_;clear b d;refine zd ?_;clear c;go_wp2;go_meet;exact⟨jg,j,rfl,jh.out.to (a.out.k.AJ l fun k e jf=>by have:=(a.out.b (jg,31,#[zO,zU 0,zE,zN,zO,zO,zO]) (by simp)).2;dsimp only at this;omega),ji,(a.out.b (j,27,#[.string (C8 [24577+i,40961])]) (by simp)).1.Ab l ((a.out.b (j,27,#[.string (C8 [24577+i,40961])]) (by simp)).1.GJ (a.out.b (jg,31,#[zO,zU 0,zE,zN,zO,zO,zO]) (by simp)).1 (show(27:Nat)≠31 from by decide)),AV jh.out.size (a.out.b (jg,31,#[zO,zU 0,zE,zN,zO,zO,zO]) (by simp)).2,AV jh.out.size (a.out.b (j,27,#[.string (C8 [24577+i,40961])]) (by simp)).2⟩
   ·go_simp;have a:=Lh (a.out.alloc 31 #[zO,zU 0,zE,zN,zO,zO,zO]);refine b.out _ _ ⟨Ae f.out.1 a.out.k,Ae f.out.2 a.out.k⟩ fun c=>?_
    clear b d;generalize O.alloc (.cells #[zO,zU 0,zE,zN,zO,zO,zO] 31)=u15 at a c ⊢;generalize O.heap.size=jg at a ⊢;refine zs 7 rfl fun d b=>?_
    go_simp;have a:=Lh (a.out.alloc 25 #[zU (8292+50*i+1)]);refine b.out _ _ ⟨Ae f.out.1 a.out.k,Ae f.out.2 a.out.k⟩ fun c=>?_
    clear b d;generalize u15.alloc (.cells #[zU (8292+50*i+1)] 25)=Ey at a c ⊢;generalize u15.heap.size=I at a ⊢;refine zs 8 rfl fun d b=>?_
    go_simp;refine(R.out _ _ _ (a.out.b (I,25,#[zU (8292+50*i+1)]) (by simp)).1).mono ?_;rintro jf u17 ⟨rfl,e⟩;have a:=Lh (a.out.AB e);clear e;go_wp2;refine b.out _ _ ⟨Ae f.out.1 a.out.k,Ae f.out.2 a.out.k⟩ fun c=>?_
    clear b d;refine zs 10 rfl fun d b=>?_
    go_simp;refine(L.out _).mono ?_;rintro jf u18 ⟨rfl,e⟩;have a:=Lh (a.out.AB e);clear e;go_wp2;refine b.out _ _ ⟨Ae f.out.1 a.out.k,Ae f.out.2 a.out.k⟩ fun c=>?_
    clear b d;refine zs 11 rfl fun d b=>?_
    go_simp;have a:=Lh (a.out.alloc 27 #[.string (C8 [24577+i,40961])]);refine b.out _ _ ⟨Ae f.out.1 a.out.k,Ae f.out.2 a.out.k⟩ fun c=>?_
    clear b d;generalize u18.alloc (.cells #[.string (C8 [24577+i,40961])] 27)=u19 at a c ⊢;generalize u18.heap.size=j at a ⊢;refine zq 15 107 c ?_;refine zl fun d b=>?_
    rw[AQ (by rfl)];refine Ck (.tmp 16) (.tmp 107) rfl rfl rfl (a.out.b (jg,31,#[zO,zU 0,zE,zN,zO,zO,zO]) (by simp)).1 Cg rfl (by simp[Value.oneCell']) ?_;intro ji l jj;clear jj;rw[CZ (by rfl)];refine b.out _ _ ?_;clear b d;refine zd ?_;clear c;go_wp2;go_meet;exact⟨jg,j,rfl,jh.out.to (a.out.k.AJ l fun k e jf=>by have:=(a.out.b (jg,31,#[zO,zU 0,zE,zN,zO,zO,zO]) (by simp)).2;dsimp only at this;omega),ji,(a.out.b (j,27,#[.string (C8 [24577+i,40961])]) (by simp)).1.Ab l ((a.out.b (j,27,#[.string (C8 [24577+i,40961])]) (by simp)).1.GJ (a.out.b (jg,31,#[zO,zU 0,zE,zN,zO,zO,zO]) (by simp)).1 (show(27:Nat)≠31 from by decide)),AV jh.out.size (a.out.b (jg,31,#[zO,zU 0,zE,zN,zO,zO,zO]) (by simp)).2,AV jh.out.size (a.out.b (j,27,#[.string (C8 [24577+i,40961])]) (by simp)).2⟩
  ·go_simp;have a:=Lh (a.out.alloc 25 #[zU (8292+50*i+1)]);refine b.out _ _ ⟨Ae f.out.1 a.out.k,Ae f.out.2 a.out.k⟩ fun c=>?_
   clear b d;generalize O.alloc (.cells #[zU (8292+50*i+1)] 25)=u20 at a c ⊢;generalize O.heap.size=I at a ⊢;refine WH 1 16 rfl rfl (fun d b=>?_) fun d b=>?_
   ·go_simp;refine(an.out _).mono ?_;rintro jf v ⟨rfl,e⟩;subst e;go_wp2;refine b.out _ _ ⟨Ae f.out.1 a.out.k,Ae f.out.2 a.out.k⟩ fun c=>?_
    clear b d;refine WH 8 16 rfl rfl (fun d b=>?_) fun d b=>?_
    ·go_simp;refine(R.out _ _ _ (a.out.b (I,25,#[zU (8292+50*i+1)]) (by simp)).1).mono ?_;rintro jf u21 ⟨rfl,e⟩;have a:=Lh (a.out.AB e);clear e;go_wp2;refine b.out _ _ ⟨Ae f.out.1 a.out.k,Ae f.out.2 a.out.k⟩ fun c=>?_
     clear b d;refine WH 10 16 rfl rfl (fun d b=>?_) fun d b=>?_
     ·go_simp;refine(L.out _).mono ?_;rintro jf u22 ⟨rfl,e⟩;have a:=Lh (a.out.AB e);clear e;go_wp2;refine b.out _ _ ⟨Ae f.out.1 a.out.k,Ae f.out.2 a.out.k⟩ fun c=>?_
      clear b d;refine WH 11 16 rfl rfl (fun d b=>?_) fun d b=>?_
      ·go_simp;have a:=Lh (a.out.alloc 27 #[.string (C8 [24577+i,40961])]);refine b.out _ _ ⟨Ae f.out.1 a.out.k,Ae f.out.2 a.out.k⟩ fun c=>?_
       clear b d;generalize u22.alloc (.cells #[.string (C8 [24577+i,40961])] 27)=u23 at a c ⊢;generalize u22.heap.size=j at a ⊢;refine zq 15 107 c ?_;refine zs 16 rfl fun d b=>?_
       go_simp;have a:=Lh (a.out.alloc 31 #[zO,zU 0,zE,zN,zO,zO,zO]);refine b.out _ _ ⟨Ae f.out.1 a.out.k,Ae f.out.2 a.out.k⟩ fun c=>?_
       clear b d;generalize u23.alloc (.cells #[zO,zU 0,zE,zN,zO,zO,zO] 31)=u24 at a c ⊢;generalize u23.heap.size=jg at a ⊢;refine zl fun d b=>?_
       rw[AQ (by rfl)];refine Ck (.tmp 16) (.tmp 107) rfl rfl rfl (a.out.b (jg,31,#[zO,zU 0,zE,zN,zO,zO,zO]) (by simp)).1 Cg rfl (by simp[Value.oneCell']) ?_;intro ji l jj;clear jj;rw[CZ (by rfl)];refine b.out _ _ ?_;clear b d;refine zd ?_;clear c;go_wp2;go_meet;exact⟨jg,j,rfl,jh.out.to (a.out.k.AJ l fun k e jf=>by have:=(a.out.b (jg,31,#[zO,zU 0,zE,zN,zO,zO,zO]) (by simp)).2;dsimp only at this;omega),ji,(a.out.b (j,27,#[.string (C8 [24577+i,40961])]) (by simp)).1.Ab l ((a.out.b (j,27,#[.string (C8 [24577+i,40961])]) (by simp)).1.GJ (a.out.b (jg,31,#[zO,zU 0,zE,zN,zO,zO,zO]) (by simp)).1 (show(27:Nat)≠31 from by decide)),AV jh.out.size (a.out.b (jg,31,#[zO,zU 0,zE,zN,zO,zO,zO]) (by simp)).2,AV jh.out.size (a.out.b (j,27,#[.string (C8 [24577+i,40961])]) (by simp)).2⟩
      ·go_simp;have a:=Lh (a.out.alloc 31 #[zO,zU 0,zE,zN,zO,zO,zO]);refine b.out _ _ ⟨Ae f.out.1 a.out.k,Ae f.out.2 a.out.k⟩ fun c=>?_
       clear b d;generalize u22.alloc (.cells #[zO,zU 0,zE,zN,zO,zO,zO] 31)=u25 at a c ⊢;generalize u22.heap.size=jg at a ⊢;refine zs 11 rfl fun d b=>?_
       go_simp;have a:=Lh (a.out.alloc 27 #[.string (C8 [24577+i,40961])]);refine b.out _ _ ⟨Ae f.out.1 a.out.k,Ae f.out.2 a.out.k⟩ fun c=>?_
       clear b d;generalize u25.alloc (.cells #[.string (C8 [24577+i,40961])] 27)=u26 at a c ⊢;generalize u25.heap.size=j at a ⊢;refine zq 15 107 c ?_;refine zl fun d b=>?_
       rw[AQ (by rfl)];refine Ck (.tmp 16) (.tmp 107) rfl rfl rfl (a.out.b (jg,31,#[zO,zU 0,zE,zN,zO,zO,zO]) (by simp)).1 Cg rfl (by simp[Value.oneCell']) ?_;intro ji l jj;clear jj;rw[CZ (by rfl)];refine b.out _ _ ?_;clear b d;refine zd ?_;clear c;go_wp2;go_meet;exact⟨jg,j,rfl,jh.out.to (a.out.k.AJ l fun k e jf=>by have:=(a.out.b (jg,31,#[zO,zU 0,zE,zN,zO,zO,zO]) (by simp)).2;dsimp only at this;omega),ji,(a.out.b (j,27,#[.string (C8 [24577+i,40961])]) (by simp)).1.Ab l ((a.out.b (j,27,#[.string (C8 [24577+i,40961])]) (by simp)).1.GJ (a.out.b (jg,31,#[zO,zU 0,zE,zN,zO,zO,zO]) (by simp)).1 (show(27:Nat)≠31 from by decide)),AV jh.out.size (a.out.b (jg,31,#[zO,zU 0,zE,zN,zO,zO,zO]) (by simp)).2,AV jh.out.size (a.out.b (j,27,#[.string (C8 [24577+i,40961])]) (by simp)).2⟩
     ·go_simp;have a:=Lh (a.out.alloc 31 #[zO,zU 0,zE,zN,zO,zO,zO]);refine b.out _ _ ⟨Ae f.out.1 a.out.k,Ae f.out.2 a.out.k⟩ fun c=>?_
      clear b d;generalize u21.alloc (.cells #[zO,zU 0,zE,zN,zO,zO,zO] 31)=u27 at a c ⊢;generalize u21.heap.size=jg at a ⊢;refine zs 10 rfl fun d b=>?_
      go_simp;refine(L.out _).mono ?_;rintro jf u28 ⟨rfl,e⟩;have a:=Lh (a.out.AB e);clear e;go_wp2;refine b.out _ _ ⟨Ae f.out.1 a.out.k,Ae f.out.2 a.out.k⟩ fun c=>?_
      clear b d;refine zs 11 rfl fun d b=>?_
      go_simp;have a:=Lh (a.out.alloc 27 #[.string (C8 [24577+i,40961])]);refine b.out _ _ ⟨Ae f.out.1 a.out.k,Ae f.out.2 a.out.k⟩ fun c=>?_
      clear b d;generalize u28.alloc (.cells #[.string (C8 [24577+i,40961])] 27)=u29 at a c ⊢;generalize u28.heap.size=j at a ⊢;refine zq 15 107 c ?_;refine zl fun d b=>?_
      rw[AQ (by rfl)];refine Ck (.tmp 16) (.tmp 107) rfl rfl rfl (a.out.b (jg,31,#[zO,zU 0,zE,zN,zO,zO,zO]) (by simp)).1 Cg rfl (by simp[Value.oneCell']) ?_;intro ji l jj;clear jj;rw[CZ (by rfl)];refine b.out _ _ ?_;clear b d;refine zd ?_;clear c;go_wp2;go_meet;exact⟨jg,j,rfl,jh.out.to (a.out.k.AJ l fun k e jf=>by have:=(a.out.b (jg,31,#[zO,zU 0,zE,zN,zO,zO,zO]) (by simp)).2;dsimp only at this;omega),ji,(a.out.b (j,27,#[.string (C8 [24577+i,40961])]) (by simp)).1.Ab l ((a.out.b (j,27,#[.string (C8 [24577+i,40961])]) (by simp)).1.GJ (a.out.b (jg,31,#[zO,zU 0,zE,zN,zO,zO,zO]) (by simp)).1 (show(27:Nat)≠31 from by decide)),AV jh.out.size (a.out.b (jg,31,#[zO,zU 0,zE,zN,zO,zO,zO]) (by simp)).2,AV jh.out.size (a.out.b (j,27,#[.string (C8 [24577+i,40961])]) (by simp)).2⟩
    ·go_simp;have a:=Lh (a.out.alloc 31 #[zO,zU 0,zE,zN,zO,zO,zO]);refine b.out _ _ ⟨Ae f.out.1 a.out.k,Ae f.out.2 a.out.k⟩ fun c=>?_
     clear b d;generalize u20.alloc (.cells #[zO,zU 0,zE,zN,zO,zO,zO] 31)=u30 at a c ⊢;generalize u20.heap.size=jg at a ⊢;refine zs 8 rfl fun d b=>?_
     go_simp;refine(R.out _ _ _ (a.out.b (I,25,#[zU (8292+50*i+1)]) (by simp)).1).mono ?_;rintro jf u31 ⟨rfl,e⟩;have a:=Lh (a.out.AB e);clear e;go_wp2;refine b.out _ _ ⟨Ae f.out.1 a.out.k,Ae f.out.2 a.out.k⟩ fun c=>?_
     clear b d;refine zs 10 rfl fun d b=>?_
     go_simp;refine(L.out _).mono ?_;rintro jf u32 ⟨rfl,e⟩;have a:=Lh (a.out.AB e);clear e;go_wp2;refine b.out _ _ ⟨Ae f.out.1 a.out.k,Ae f.out.2 a.out.k⟩ fun c=>?_
     clear b d;refine zs 11 rfl fun d b=>?_
     go_simp;have a:=Lh (a.out.alloc 27 #[.string (C8 [24577+i,40961])]);refine b.out _ _ ⟨Ae f.out.1 a.out.k,Ae f.out.2 a.out.k⟩ fun c=>?_
     clear b d;generalize u32.alloc (.cells #[.string (C8 [24577+i,40961])] 27)=u33 at a c ⊢;generalize u32.heap.size=j at a ⊢;refine zq 15 107 c ?_;refine zl fun d b=>?_
     rw[AQ (by rfl)];refine Ck (.tmp 16) (.tmp 107) rfl rfl rfl (a.out.b (jg,31,#[zO,zU 0,zE,zN,zO,zO,zO]) (by simp)).1 Cg rfl (by simp[Value.oneCell']) ?_;intro ji l jj;clear jj;rw[CZ (by rfl)];refine b.out _ _ ?_;clear b d;refine zd ?_;clear c;go_wp2;go_meet;exact⟨jg,j,rfl,jh.out.to (a.out.k.AJ l fun k e jf=>by have:=(a.out.b (jg,31,#[zO,zU 0,zE,zN,zO,zO,zO]) (by simp)).2;dsimp only at this;omega),ji,(a.out.b (j,27,#[.string (C8 [24577+i,40961])]) (by simp)).1.Ab l ((a.out.b (j,27,#[.string (C8 [24577+i,40961])]) (by simp)).1.GJ (a.out.b (jg,31,#[zO,zU 0,zE,zN,zO,zO,zO]) (by simp)).1 (show(27:Nat)≠31 from by decide)),AV jh.out.size (a.out.b (jg,31,#[zO,zU 0,zE,zN,zO,zO,zO]) (by simp)).2,AV jh.out.size (a.out.b (j,27,#[.string (C8 [24577+i,40961])]) (by simp)).2⟩
   ·go_simp;have a:=Lh (a.out.alloc 31 #[zO,zU 0,zE,zN,zO,zO,zO]);refine b.out _ _ ⟨Ae f.out.1 a.out.k,Ae f.out.2 a.out.k⟩ fun c=>?_
    clear b d;generalize u20.alloc (.cells #[zO,zU 0,zE,zN,zO,zO,zO] 31)=u34 at a c ⊢;generalize u20.heap.size=jg at a ⊢;refine zs 1 rfl fun d b=>?_
    go_simp;refine(an.out _).mono ?_;rintro jf v ⟨rfl,e⟩;subst e;go_wp2;refine b.out _ _ ⟨Ae f.out.1 a.out.k,Ae f.out.2 a.out.k⟩ fun c=>?_
    clear b d;refine zs 8 rfl fun d b=>?_
    go_simp;refine(R.out _ _ _ (a.out.b (I,25,#[zU (8292+50*i+1)]) (by simp)).1).mono ?_;rintro jf u35 ⟨rfl,e⟩;have a:=Lh (a.out.AB e);clear e;go_wp2;refine b.out _ _ ⟨Ae f.out.1 a.out.k,Ae f.out.2 a.out.k⟩ fun c=>?_
    clear b d;refine zs 10 rfl fun d b=>?_
    go_simp;refine(L.out _).mono ?_;rintro jf u36 ⟨rfl,e⟩;have a:=Lh (a.out.AB e);clear e;go_wp2;refine b.out _ _ ⟨Ae f.out.1 a.out.k,Ae f.out.2 a.out.k⟩ fun c=>?_
    clear b d;refine zs 11 rfl fun d b=>?_
    go_simp;have a:=Lh (a.out.alloc 27 #[.string (C8 [24577+i,40961])]);refine b.out _ _ ⟨Ae f.out.1 a.out.k,Ae f.out.2 a.out.k⟩ fun c=>?_
    clear b d;generalize u36.alloc (.cells #[.string (C8 [24577+i,40961])] 27)=u37 at a c ⊢;generalize u36.heap.size=j at a ⊢;refine zq 15 107 c ?_;refine zl fun d b=>?_
    rw[AQ (by rfl)];refine Ck (.tmp 16) (.tmp 107) rfl rfl rfl (a.out.b (jg,31,#[zO,zU 0,zE,zN,zO,zO,zO]) (by simp)).1 Cg rfl (by simp[Value.oneCell']) ?_;intro ji l jj;clear jj;rw[CZ (by rfl)];refine b.out _ _ ?_;clear b d;refine zd ?_;clear c;go_wp2;go_meet;exact⟨jg,j,rfl,jh.out.to (a.out.k.AJ l fun k e jf=>by have:=(a.out.b (jg,31,#[zO,zU 0,zE,zN,zO,zO,zO]) (by simp)).2;dsimp only at this;omega),ji,(a.out.b (j,27,#[.string (C8 [24577+i,40961])]) (by simp)).1.Ab l ((a.out.b (j,27,#[.string (C8 [24577+i,40961])]) (by simp)).1.GJ (a.out.b (jg,31,#[zO,zU 0,zE,zN,zO,zO,zO]) (by simp)).1 (show(27:Nat)≠31 from by decide)),AV jh.out.size (a.out.b (jg,31,#[zO,zU 0,zE,zN,zO,zO,zO]) (by simp)).2,AV jh.out.size (a.out.b (j,27,#[.string (C8 [24577+i,40961])]) (by simp)).2⟩
  ·go_simp;have a:=Lh (a.out.alloc 31 #[zO,zU 0,zE,zN,zO,zO,zO]);refine b.out _ _ ⟨Ae f.out.1 a.out.k,Ae f.out.2 a.out.k⟩ fun c=>?_
   clear b d;generalize O.alloc (.cells #[zO,zU 0,zE,zN,zO,zO,zO] 31)=u38 at a c ⊢;generalize O.heap.size=jg at a ⊢;refine WH 1 7 rfl rfl (fun d b=>?_) fun d b=>?_
   ·go_simp;refine(an.out _).mono ?_;rintro jf v ⟨rfl,e⟩;subst e;go_wp2;refine b.out _ _ ⟨Ae f.out.1 a.out.k,Ae f.out.2 a.out.k⟩ fun c=>?_
    clear b d;refine zs 7 rfl fun d b=>?_
    go_simp;have a:=Lh (a.out.alloc 25 #[zU (8292+50*i+1)]);refine b.out _ _ ⟨Ae f.out.1 a.out.k,Ae f.out.2 a.out.k⟩ fun c=>?_
    clear b d;generalize u38.alloc (.cells #[zU (8292+50*i+1)] 25)=u39 at a c ⊢;generalize u38.heap.size=I at a ⊢;refine zs 8 rfl fun d b=>?_
    go_simp;refine(R.out _ _ _ (a.out.b (I,25,#[zU (8292+50*i+1)]) (by simp)).1).mono ?_;rintro jf u40 ⟨rfl,e⟩;have a:=Lh (a.out.AB e);clear e;go_wp2;refine b.out _ _ ⟨Ae f.out.1 a.out.k,Ae f.out.2 a.out.k⟩ fun c=>?_
    clear b d;refine zs 10 rfl fun d b=>?_
    go_simp;refine(L.out _).mono ?_;rintro jf u41 ⟨rfl,e⟩;have a:=Lh (a.out.AB e);clear e;go_wp2;refine b.out _ _ ⟨Ae f.out.1 a.out.k,Ae f.out.2 a.out.k⟩ fun c=>?_
    clear b d;refine zs 11 rfl fun d b=>?_
    go_simp;have a:=Lh (a.out.alloc 27 #[.string (C8 [24577+i,40961])]);refine b.out _ _ ⟨Ae f.out.1 a.out.k,Ae f.out.2 a.out.k⟩ fun c=>?_
    clear b d;generalize u41.alloc (.cells #[.string (C8 [24577+i,40961])] 27)=u42 at a c ⊢;generalize u41.heap.size=j at a ⊢;refine zq 15 107 c ?_;refine zl fun d b=>?_
    rw[AQ (by rfl)];refine Ck (.tmp 16) (.tmp 107) rfl rfl rfl (a.out.b (jg,31,#[zO,zU 0,zE,zN,zO,zO,zO]) (by simp)).1 Cg rfl (by simp[Value.oneCell']) ?_;intro ji l jj;clear jj;rw[CZ (by rfl)];refine b.out _ _ ?_;clear b d;refine zd ?_;clear c;go_wp2;go_meet;exact⟨jg,j,rfl,jh.out.to (a.out.k.AJ l fun k e jf=>by have:=(a.out.b (jg,31,#[zO,zU 0,zE,zN,zO,zO,zO]) (by simp)).2;dsimp only at this;omega),ji,(a.out.b (j,27,#[.string (C8 [24577+i,40961])]) (by simp)).1.Ab l ((a.out.b (j,27,#[.string (C8 [24577+i,40961])]) (by simp)).1.GJ (a.out.b (jg,31,#[zO,zU 0,zE,zN,zO,zO,zO]) (by simp)).1 (show(27:Nat)≠31 from by decide)),AV jh.out.size (a.out.b (jg,31,#[zO,zU 0,zE,zN,zO,zO,zO]) (by simp)).2,AV jh.out.size (a.out.b (j,27,#[.string (C8 [24577+i,40961])]) (by simp)).2⟩
   ·go_simp;have a:=Lh (a.out.alloc 25 #[zU (8292+50*i+1)]);refine b.out _ _ ⟨Ae f.out.1 a.out.k,Ae f.out.2 a.out.k⟩ fun c=>?_
    clear b d;generalize u38.alloc (.cells #[zU (8292+50*i+1)] 25)=u43 at a c ⊢;generalize u38.heap.size=I at a ⊢;refine zs 1 rfl fun d b=>?_
    go_simp;refine(an.out _).mono ?_;rintro jf v ⟨rfl,e⟩;subst e;go_wp2;refine b.out _ _ ⟨Ae f.out.1 a.out.k,Ae f.out.2 a.out.k⟩ fun c=>?_
    clear b d;refine zs 8 rfl fun d b=>?_
    go_simp;refine(R.out _ _ _ (a.out.b (I,25,#[zU (8292+50*i+1)]) (by simp)).1).mono ?_;rintro jf u44 ⟨rfl,e⟩;have a:=Lh (a.out.AB e);clear e;go_wp2;refine b.out _ _ ⟨Ae f.out.1 a.out.k,Ae f.out.2 a.out.k⟩ fun c=>?_
    clear b d;refine zs 10 rfl fun d b=>?_
    go_simp;refine(L.out _).mono ?_;rintro jf u45 ⟨rfl,e⟩;have a:=Lh (a.out.AB e);clear e;go_wp2;refine b.out _ _ ⟨Ae f.out.1 a.out.k,Ae f.out.2 a.out.k⟩ fun c=>?_
    clear b d;refine zs 11 rfl fun d b=>?_
    go_simp;have a:=Lh (a.out.alloc 27 #[.string (C8 [24577+i,40961])]);refine b.out _ _ ⟨Ae f.out.1 a.out.k,Ae f.out.2 a.out.k⟩ fun c=>?_
    clear b d;generalize u45.alloc (.cells #[.string (C8 [24577+i,40961])] 27)=u46 at a c ⊢;generalize u45.heap.size=j at a ⊢;refine zq 15 107 c ?_;refine zl fun d b=>?_
    rw[AQ (by rfl)];refine Ck (.tmp 16) (.tmp 107) rfl rfl rfl (a.out.b (jg,31,#[zO,zU 0,zE,zN,zO,zO,zO]) (by simp)).1 Cg rfl (by simp[Value.oneCell']) ?_;intro ji l jj;clear jj;rw[CZ (by rfl)];refine b.out _ _ ?_;clear b d;refine zd ?_;clear c;go_wp2;go_meet;exact⟨jg,j,rfl,jh.out.to (a.out.k.AJ l fun k e jf=>by have:=(a.out.b (jg,31,#[zO,zU 0,zE,zN,zO,zO,zO]) (by simp)).2;dsimp only at this;omega),ji,(a.out.b (j,27,#[.string (C8 [24577+i,40961])]) (by simp)).1.Ab l ((a.out.b (j,27,#[.string (C8 [24577+i,40961])]) (by simp)).1.GJ (a.out.b (jg,31,#[zO,zU 0,zE,zN,zO,zO,zO]) (by simp)).1 (show(27:Nat)≠31 from by decide)),AV jh.out.size (a.out.b (jg,31,#[zO,zU 0,zE,zN,zO,zO,zO]) (by simp)).2,AV jh.out.size (a.out.b (j,27,#[.string (C8 [24577+i,40961])]) (by simp)).2⟩
 case rest =>
 obtain⟨jg,j,rfl,e,ji,eq,hv,hs⟩:=hcut;clear cp ay;have eg:=az.out.to e;obtain⟨hy,hz,ia,ib,ic⟩:=cd.out;have hp:=e.size;have hr:=dt.out.t.size;obtain⟨o2,ej,ag,hj⟩:=(gh.out.AB e).add (Dv ⟨ai,H,D,B,i,0,8292+50*i+1,r,z,1,ob,[],[],[]⟩) (fun k=>k=ai∨(w.heap.size<=k/\k<J.heap.size/\k≠r)) (fun k Q=>by
   rcases Q with rfl|⟨aq,iq,hc⟩
   ·exact⟨ac.out.z _ (by omega),by omega⟩
   ·exact⟨gv.out k aq hc,by omega⟩) ⟨.slice A jk u,zN,zN,zN,(ao.out.Ab e id),.inl rfl,(gt.out.Ab eg fun _ _ h=>h).wider fun k jf=>.inr jf,⟨World.ownsRow_nil _ _ _ _,fun g U=>by cases U⟩,⟨World.ownsRow_nil _ _ _ _,fun g U=>by cases U⟩,⟨World.ownsRow_nil _ _ _ _,fun g U=>by cases U⟩⟩
 have fi:=(gm.out.AB e).add ag fun k Q=>by rcases Q with rfl|⟨aq,_⟩<;>omega
 obtain⟨iu,ek,ak,hk⟩:=ej.add (Dz N H 60 []) (fun k=>N<=k/\k<bl) (fun k Q=>⟨(ag k fun jf=>by rcases jf with jf|⟨_,jf,_⟩<;>omega).trans (ac.out.z _ (by omega)),by omega⟩) (Eb.AB _ ds.out e);have fj:=fi.add ak fun k Q=>by omega
 obtain⟨iv,el,au,hl⟩:=ek.add (Hy N D cr 8 [] []) (fun k=>bl<=k/\k<bm) (fun k Q=>⟨(ak k fun jf=>by omega).trans ((ag k fun jf=>by rcases jf with jf|⟨_,jf,_⟩<;>omega).trans (ac.out.z _ (by omega))),by omega⟩) (Eb.AB _ dv.out e);have fk:=fj.add au fun k Q=>by omega
 obtain⟨bj,ck,bi,hm⟩:=el.add (EP B cq 40 0 []) (fun k=>bm<=k/\k<ai) (fun k Q=>⟨(au k fun jf=>by omega).trans ((ak k fun jf=>by omega).trans ((ag k fun jf=>by rcases jf with jf|⟨_,jf,_⟩<;>omega).trans (ac.out.z _ (by omega)))),by omega⟩) (Eb.AB _ bp.out e);have fl:=fk.add bi fun k Q=>by omega
 have ez:bj j=0:=(bi j fun jf=>by omega).trans ((au j fun jf=>by omega).trans ((ak j fun jf=>by omega).trans ((ag j fun jf=>by rcases jf with jf|⟨_,jf,_⟩<;>omega).trans (ac.out.z _ (by omega)))));have fa:bj jg=0:=(bi jg fun jf=>by omega).trans ((au jg fun jf=>by omega).trans ((ak jg fun jf=>by omega).trans ((ag jg fun jf=>by rcases jf with jf|⟨_,jf,_⟩<;>omega).trans (ac.out.z _ (by omega)))));simp only[BJ,Df,BU] at ck;have dq:=Lh ck;have gn:=Lh fl;have ea:Hid (Loc bj wc jg 31 #[zI 1,zU (8193+i),.string (C8 [8292+50*i+1]),zS j 0 1 1,zO,zI 4611686018427387904,zI 1]):=Lh ⟨ji,fa,by decide,by decide⟩;have dx:Hid (Loc bj wc j 27 #[.string (C8 [24577+i,40961])]):=Lh ⟨eq,ez,by decide,by decide⟩;have bv:Hid (w.heap.size<=N/\N<=wc.heap.size):=Lh ⟨by omega,by omega⟩;clear ej ek el ck fi fj fk fl ag ak au bi hj hk hl hm ez fa ji eq hv hs hy hz ia ib ic hp hr eg e;obtain⟨p,af⟩:∃ p:Fb,p=⟨ai,H,D,B,i,0,8292+50*i+1,r,z,1,ob,[],[],[]⟩:=⟨_,rfl⟩
 rw[<- af] at dq;have cy:Hid (p.nb=ai/\p.st=H/\p.tb=D/\p.ca=B/\p.num=i/\p.Kh=0/\p.key=8292+50*i+1/\p.jp=r/\p.kb=z/\p.boot=1/\p.ob=ob/\p.L=[]/\p.C=[]/\p.R=[]):=Lh (by rw[af];exact⟨rfl,rfl,rfl,rfl,rfl,rfl,rfl,rfl,rfl,rfl,rfl,rfl,rfl,rfl⟩);clear af;obtain⟨rfl,rfl,rfl,rfl,rfl,_,_,rfl,rfl,_,_,_⟩:=cy.out;have hh:jb<(cs.set jd (FZ G p.jp 2 (1-half))).length:=(AC.1 bo.out).1;have cx:=Lh (Rm (x:=x) (jn:=(cs.set jd (FZ G p.jp 2 (1-half))).length+0) dq.out (WN bo.out) (Po 0) rfl (by omega) (Dx p.num 0 1) (zA j 0) 1 dj.out (Gf (V:=Value.string) (fun _=>rfl) dx.out.BR [C8 [24577+p.num,40961]] rfl) (by have:=gl.out;omega));have aq:Cu (Dx p.num 0 1) (some (zA j 0)) 1=#[zI 1,zU (8193+p.num),.string (C8 [8292+50*p.num+1]),zS j 0 1 1,zO,zI 4611686018427387904,zI 1]:=rfl;rw[aq] at cx;go_upto_region 21 with(first
  |(refine AA rfl (.tmp 16) rfl rfl ea.out.BR Tryz.underlying31 rfl Cg ?_)
  |(go_at_call 93;refine cx.out.mono ?_;rintro jf iz ⟨rfl,bc,fg,iw,em,ar⟩;have dr:=Lh fg;have gi:=Lh em;have go:=Lh (gn.out.trans ar);have gu:=Lh (ea.out.stay ar);have dy:=Lh (dx.out.stay ar);have du:=Lh ar.t.size;clear fg em ar))
 have fe:=gi.out;rw[List.set_append_left _ _ hh] at fe;have ir:((cs.set jd (FZ G p.jp 2 (1-half))).set jb (Eg p.kb bc M T)).length=(cs.set jd (FZ G p.jp 2 (1-half))).length:=Dq;have cw:=Lh (Ls (x:=x) (jb:=jb) (jn:=((cs.set jd (FZ G p.jp 2 (1-half))).set jb (Eg p.kb bc M T)).length+0) (js:=((cs.set jd (FZ G p.jp 2 (1-half))).set jb (Eg p.kb bc M T)).length+1) fe (WN (MH bo.out)) (Po 0) (Po 1) rfl rfl (by omega) (Dx p.num 0 1) (zA j 0) 1 dj.out (Gf (V:=Value.string) (fun _=>rfl) dy.out.BR [C8 [24577+p.num,40961]] rfl) (by rw[dy.out.z];omega) (Led.aA.2 dr.out.has) (by have:=bv.out;have:=du.out;omega) (by simp) (by omega));rw[aq] at cw;go_wp2_with (first
  |(refine AA rfl (.tmp 16) rfl rfl gu.out.BR Tryz.underlying31 rfl Cg ?_)
  |(go_at_call 94;refine cw.out.mono ?_;rintro jf ja ⟨rfl,hw,en,cl⟩;have gj:=Lh en;have gp:=Lh (go.out.trans cl);have gq:=Lh cl.t.size;clear en cl))
 go_ret2;have ff:=gj.out;rw[List.set_append_right _ _ (by omega),show ∀ m:Nat,m+1-m=1 from fun m=>by omega] at ff;obtain⟨_,_,_,_,_,hd,he,_,_,gw,gx,gy,gz,hb⟩:=cy.out;refine⟨p,N,cr,cq,bc,hw,rfl,⟨rfl,hd,by rw[he];omega,rfl,gw,gx,gy,gz,hb⟩,dr.out,?_,gp.out,bv.out.1,by have:=bv.out.2;have:=du.out;have:=gq.out;omega⟩;rw[List.set_comm _ _ di.out];exact ff
end

end Go.Proofs.YtcjcndnjpedniaaGreat
