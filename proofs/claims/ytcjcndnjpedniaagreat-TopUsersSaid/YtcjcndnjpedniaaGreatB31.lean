/- A part of the proof of TopUsers. -/
import Derived.Test.YtcjcndnjpedniaaGreatB30
namespace Go.Proofs.YtcjcndnjpedniaaGreat
set_option linter.all false
set_option maxRecDepth 100000
set_option maxHeartbeats 8000000
open Go.RowKit
theorem J9 {W:Bc} {base e size n:Nat} {v:Value} {xs:List Value} (d:W.ownsRow base e size v n xs) (l:0<n):∃ g c,v=zS g 0 n c/\g<W.heap.size:=by
 rcases d.2 with⟨j,_,_⟩|⟨b,a,i,h,k,f,_⟩
 ·omega
 ·exact⟨b,a,h,Et f⟩
def Ty (ts:List TypeId) (W:Bc) (k:Nat):Prop:=∃ a cs,AX W k a cs/\a∈ts
section
variable {w W:Bc} {F P:Nat->Prop} {ts:List TypeId} {d:Fb} {vo vl vc vr:Value}
theorem Qf {base e size n g:Nat} {v:Value} {xs:List Value} (a:w.ownsRow base e size v n xs) (d:v.ownBlock=some g) (c:e∈ts):Ty ts w g:=by
 obtain⟨_,cs,b⟩:=Ic a d;exact⟨e,cs,b,c⟩
theorem Ty.not {k:Nat} {t:TypeId} {cs:Array Value} (b:AX w k t cs) (ht:t∉ts):¬Ty ts w k:=fun⟨e,d,a,c⟩=>by
 unfold AX at b a;rw[b] at a;injection a with a;injection a with _ a _;rw[<- a] at c;exact ht c
theorem J4.off {b : Type} {V:b->Value} {e size:Nat} {v:Value} {L:List b} (a:J4 V w F e size v L) (d:Am (fun k=>P k/\Ty ts w k) w W) (g:e∉ts):J4 V W F e size v L :=
 ⟨Aj a.1 d fun i h c=>by obtain⟨_,cs,f⟩:=Ic a.1 h;exact Ty.not f g c.2,a.2⟩
theorem Jm.off {v:Value} {ob:Option DZ} (c:Jm w F v ob) (z:Am (fun k=>P k/\Ty ts w k) w W) (t:43∉ts) (u:40∉ts) (y:27∉ts):Jm W F v ob:=by
 cases ob with
 |none=>exact c
 |some x =>
  obtain⟨q,d,j,r,e,s,f,l,m,a,b,n,o,p⟩:=c;obtain⟨_,g⟩:=b.b1;obtain⟨_,h⟩:=b.b2;obtain⟨_,i⟩:=b.b3;exact⟨q,d,j,r,e,s,f,l,m,a,b.far z (fun a=>Ty.not g t a.2) (fun a=>Ty.not h u a.2) fun a=>Ty.not i y a.2,n,o,p⟩
end
section
variable {w w' W:Bc} {x:Option Nat} {cs:List Eb} {o:Nat->Nat} {d:Fb} {S:List Led.Vl} {M:List Led.Made} {T:List Int}
theorem Rc:(Tryz.prog.info? 74).map (fun i=>(i.zero,i.size,i.bytes))=some (some (.agg #[zU 0,zO,zO,zO]),4,32):=by kernel_rfl
theorem Yv (ch seq op arg:Int) (b:Nat) (w:Bc) (c:Cl w b 1 (zU ch)) (d:Cl w b 2 (zI seq)) :
  Calls Tryz.prog 148 #[.agg #[zI 2,zU ch,zI seq,zO,zI op,zI arg,zO,zN,zO,zO,zE,zN],zP b] w (Rt (.bool true) (Au w)):=by
 have a:=(T0 w).alloc (.cells #[zI 2,zU ch,zI seq,zO,zI op,zI arg,zO,zN,zO,zO,zE,zN] 104);have h:=Ae c a;have i:=Ae d a;have e:=Lh a;clear a c d;have f:(ch==ch)=true:=beq_self_eq_true _;have g:(seq==seq)=true:=beq_self_eq_true _;go_in;go_wp2;go_ret;exact⟨rfl,e.out⟩
theorem dH (ch seq op arg:Int) (g c d:Nat) (w:Bc) (l:Ay WR w w.heap.size 12 (some (zA g 0)) [(ch,seq,op,arg)]) (h:Cl w d 1 (zU ch)) (i:Cl w d 2 (zI seq)) :
  Calls Tryz.prog 147 #[zS g 0 1 c,.func (.func 148) #[] #[zP d]] w (Rt zO (Au w)):=by
 have e:=Lh (Yv ch seq op arg d w h i);obtain⟨o,C,f,_,j⟩:=l 0 (by simp);cases f;have a:=fun b (n:b<12)=>j b n
 have p:Cl w g 0 (zI 2):=a 0 (by omega);have q:Cl w g 1 (zU ch):=a 1 (by omega);have t:Cl w g 2 (zI seq):=a 2 (by omega);have u:Cl w g 3 zO:=a 3 (by omega);have v:Cl w g 4 (zI op):=a 4 (by omega);have x:Cl w g 5 (zI arg):=a 5 (by omega);have y:Cl w g 6 zO:=a 6 (by omega);have z:Cl w g 7 (zN):=a 7 (by omega);have A:Cl w g 8 zO:=a 8 (by omega);have B:Cl w g 9 zO:=a 9 (by omega);have r:Cl w g 10 (zE):=a 10 (by omega);have s:Cl w g 11 (zN):=a 11 (by omega);clear l h i j a;go_in;go_wp2;go_loopg [8] 1 fun gk b wr=>gk=1/\b=zO/\w=wr
 case atStart=>exact⟨rfl,rfl,rfl⟩
 case round =>
  obtain⟨rfl,rfl,rfl⟩:=hrel;go_wp2_with fail;refine e.out.mono ?_;rintro f D ⟨rfl,k⟩;have m:=Lh k;clear e k;go_wp2;go_ret;exact⟨rfl,m.out⟩
theorem U6 {jb jn ct:Nat} {ch seq op arg er v fr y:Int} (f:ED cs w o) (ca:cs[jb]?= some (Eg ct S M T)) (au:cs[jn]?= some (Dv d)) (cg:d.kb=ct) (hC:d.C=[(ch,seq,op,arg)]) (dm:d.L.length<=100) (dk:d.R.length<=100) (ci:IL d.L ch=fr) (bw:M.length<=2000) (cj:((ch,1,seq,Dy (Fg ch seq er v)),y)∈M)
  (cb:Ey ch) (ao:ch/8192=2) (ck:0<=seq) (hs1:seq<=1000) (cc:0<=er) (cd:er<=100) (cl:0<=v) (cm:v<=1000000) :
  Calls Tryz.prog 109 #[zP d.nb,zI fr,.agg #[zI 3,zU ch,zI seq,zO,zO,zO,zO,zN,zI er,zI v,zE,zN]] w (Rt (.tuple #[]) fun w'=>FE x (cs.set jn (Dv {d with C:=[],R:=d.R++[(ch,seq,er,v)]})) o w w'):=by
 have ap:=(T0 w).alloc (.cells #[zI 3,zU ch,zI seq,zO,zO,zO,zO,zN,zI er,zI v,zE,zN] 104);have bp:Hid (ED cs (w.alloc (.cells #[zI 3,zU ch,zI seq,zO,zO,zO,zO,zN,zI er,zI v,zE,zN] 104)) o):=Lh (f.AB ap);have be:Hid (Au w (w.alloc (.cells #[zI 3,zU ch,zI seq,zO,zO,zO,zO,zN,zI er,zI v,zE,zN] 104))):=Lh ap;have L:Hid (Loc o (w.alloc (.cells #[zI 3,zU ch,zI seq,zO,zO,zO,zO,zN,zI er,zI v,zE,zN] 104)) w.heap.size 104 #[zI 3,zU ch,zI seq,zO,zO,zO,zO,zN,zI er,zI v,zE,zN]):=Lh (Loc.new f _ (by decide) (by decide));have db:=Lh fun(W:Bc) (aq:ED cs W o)=>OG aq ca au cg (zI 3) (zU ch) (zI seq) zO zO zO zO (zN) (zI er) (zI v) (zE) (zN) ch 1 seq y (Dy (Fg ch seq er v)) bw cj fun W=>PU ch seq er v W cb ao ck hs1 cc cd cl cm
 obtain⟨vo,vl,vc,vr,m⟩:=f.node au;obtain⟨ba,cu,cn⟩:=BD m.rl.1;have ad:=m.rc.1;rw[hC] at ad;obtain⟨h,q,rfl,dl⟩:=J9 ad (by simp);obtain⟨B,G,co⟩:=BD m.rr.1;obtain⟨i,ac⟩:∃ i,i=d.R.length:=⟨_,rfl⟩
 obtain⟨dr,Q⟩:∃ i,i=d.L.length:=⟨_,rfl⟩
 have av:=m.rr;rw[<- Q] at cn;rw[<- ac] at co;subst cn co;have bb:=Lh fun W (c:Au w W)=>XR d.nb ba cu d.L ch W ((c.cell (p:=zA d.nb 11) m.BR.lt id).trans (by rw[<- Q];exact m.BR.cell 11)) (by omega) ((Ay.Hu (V:=aU) (fun _=>rfl) (by have:=m.rl.1;rw[<- Q] at this;rw[<- Q];exact this)).AB c)
 rw[ci] at bb;have s:=Lh m;have K:Hid (w.ownsRow 0 104 12 (zS h 0 1 q) 1 (BN WR [(ch,seq,op,arg)])):=Lh ad;have ak:Hid (w.ownsRow 0 74 4 (.slice B i G) i (BN QD d.R)):=Lh (by have:=av.1;rw[<- ac] at this;exact this);have bo:=Lh av.2;have ar:o h=jn+1:=m.rc.2 h (by simp[Value.ownBlock]);have bd:=Lh ar;have df:Hid (∀ g,(Value.slice (some (zA h 0)) 0 q).ownBlock=some g->o g=jn+1):=Lh fun g hq=>by
  have a:h=g:=by simpa [Value.ownBlock] using hq
  rw[<- a];exact ar
 have ah:Hid (o d.nb=jn+1):=Lh m.f;have dd:=Lh f;have dx:=Lh hC;have ea:i<=100:=by omega
 have de:=Lh ac;clear f ca au cg hC dm dk ci bw cj cb ao ck hs1 cc cd cl cm ap m ad dl av ar ac Q;obtain⟨dq,cf,cp,cq,cr⟩:=info_parts Rc;go_in;go_upto_region 1 with(fail)
 obtain⟨l,aw⟩:∃ r,r=w.heap.size:=⟨_,rfl⟩
 have dy:=Lh aw;generalize w.alloc (.cells #[zI 3,zU ch,zI seq,zO,zO,zO,zO,zN,zI er,zI v,zE,zN] 104)=U at L bp be ⊢;rw[<- aw] at L ⊢;clear aw;have A:Cl U l 1 (zU ch):=L.out.BR.cell 1;have dz:(fr==fr)=true:=beq_self_eq_true _;refine GZ (fun W=>AX W l 104 #[zI 3,zU ch,zI seq,zO,zO,zO,zO,zN,zI er,zI v,zE,zN]/\Cl W l 1 (zU ch)) ⟨L.out.BR.drew,A⟩ fun b=>?_
 have bq:=Lh (bp.out.AB (T0 U).drew);have bs:=Lh (L.out.AB (T0 U).drew);have bf:=Lh (be.out.to (T0 U).drew);clear A;generalize U.drew=ec at bq bs bf b ⊢;refine hq 0 7 b ?_;refine hq 1 8 (hx:=fun W aq=>Ce (.tmp 5) rfl rfl aq.1 Tryz.underlying104 rfl BM) b ?_;refine Gg 2 fun k c=>?_
 go_simp;refine(db.out _ bq.out).mono ?_;rintro a ed ⟨rfl,n⟩;have am:=Lh (bs.out.AB n);have bg:=Lh (bf.out.to n);clear n;go_wp2;refine c.out _ _ ⟨am.out.BR,am.out.BR.cell 1⟩ fun b=>?_
 clear c k;refine hq 3 10 b ?_;refine hq 4 11 b ?_;refine hq 5 12 b ?_;refine hq 6 13 b ?_;refine hq 7 14 b ?_;refine hq 8 15 b ?_;refine hq 9 16 b ?_;refine hq 11 18 b ?_;refine Gg 10 fun k c=>?_
 go_simp;refine(bb.out _ bg.out).mono ?_;rintro a ax ⟨rfl,n⟩;have E:=Lh (am.out.AB n);have ag:=Lh (bg.out.to n);clear n;go_wp2;refine c.out _ _ ⟨E.out.BR,E.out.BR.cell 1⟩ fun b=>?_
 clear c k;refine hq 12 19 b ?_;refine hq 13 20 b ?_;refine zw ?_;clear b;have A:Cl ax l 1 (zU ch):=E.out.BR.cell 1;have az:Cl ax d.nb 12 (zS h 0 1 q):=Ae (s.out.BR.cell 12) ag.out;have da:=Lh fun W (c:Au ax W)=>dH ch seq op arg h q l W ((Ay.Hu (V:=WR) (xs:=[(ch,seq,op,arg)]) (fun _=>rfl) (Aj K.out ag.out fun _ _ f=>f)).AB c) (Ae (E.out.BR.cell 1) c) (Ae (E.out.BR.cell 2) c)
 go_upto_region 4 with(go_at_call 147;refine(da.out _ (Aa _ _)).mono ?_;rintro a dv ⟨rfl,n⟩;have I:=Lh (ag.out.to n);have bt:=Lh (E.out.AB n);clear n)
 clear az A;have az:Cl dv d.nb 12 (zS h 0 1 q):=Ae (s.out.BR.cell 12) I.out;have cz:=Lh (ZL (Aj K.out I.out fun _ _ f=>f));go_upto_region 5 with(go_at_call 149;go_loud (refine cz.out.mono ?_;rintro a X ⟨rfl,bx,O⟩;have bi:=Lh bx;have dg:Hid (Am (fun e=>o e=jn+1/\Ty [104,72,74] w e) w X):=Lh (((I.out.mono fun _ _ f=>f.elim).AJ O (fun _ _ a=>a):Am (fun e=>e=h) w X).mono fun e _ a=>by rw[show e=h from a];exact⟨bd.out,Qf K.out (by simp[Value.ownBlock]) (by decide)⟩);have D:=Lh ((s.out.BR.Ab I.out id).Ab O fun a=>Ba K.out s.out.BR (by decide) (by rw[show d.nb=h from a];simp[Value.ownBlock]));have bu:=Lh (bt.out.BR.Ab O fun(a:l=h)=>by have dj:=bt.out.z;have ao:=bd.out;rw[a] at dj;omega);have bl:=Lh (Aj (Aj ak.out I.out fun _ _ f=>f) O fun g hq a=>Ex ak.out K.out (by decide) hq (by rw[show g=h from a];simp[Value.ownBlock]));have dw:=D.out.cell 12;have di:=D.out.frozen 12;clear bx O))
 have N:=(Aa (fun e=>e=d.nb) X).setCell (p:=zA d.nb 12) (fun _=>rfl) (zS h 0 0 q);have br:Hid (Am (fun e=>o e=jn+1/\Ty [104,72,74] w e) w (X.setCell (zA d.nb 12) (zS h 0 0 q))):=Lh (dg.out.AJ N fun e _ a=>by rw[show e=d.nb from a];exact⟨ah.out,_,_,s.out.BR,by decide⟩);have ae:=Lh (D.out.Dw 12 (zS h 0 0 q));have F:=Lh (bu.out.Ab N fun(a:l=d.nb)=>bu.out.GJ D.out (by decide) a);have bm:=Lh (Aj bl.out N fun g hq a=>Ba bl.out D.out (by decide) (by rw[hq,show g=d.nb from a]));have bj:=Lh (Aj bi.out N fun g hq a=>Ba bi.out D.out (by decide) (by rw[hq,show g=d.nb from a]));clear N dw di az;generalize X.setCell (zA d.nb 12) (zS h 0 0 q)=z at br ae F bm bj ⊢;have cy:Cl z d.nb 13 (.slice B i G):=ae.out.cell 13;have A:Cl z l 1 (zU ch):=F.out.cell 1;have cv:Cl z l 2 (zI seq):=F.out.cell 2;have cw:Cl z l 8 (zI er):=F.out.cell 8;have cx:Cl z l 9 (zI v):=F.out.cell 9;refine EQ 20 (S:=fun W=>Cl W d.nb 13 (.slice B i G)/\Cl W l 1 (zU ch)/\Cl W l 2 (zI seq)/\Cl W l 8 (zI er)/\Cl W l 9 (zI v)) (by kernel_rfl) ⟨cy,A,cv,cw,cx⟩ fun b=>?_
 have al:=Lh br.out.drew;have af:=Lh ae.out.drew;have an:=Lh F.out.drew;have J:=Lh (Aj bm.out (T0 z).drew fun _ _ f=>f);have ai:=Lh (Aj bj.out (T0 z).drew fun _ _ f=>f);clear cy A cv cw cx;generalize z.drew=Y at al af an J ai b ⊢;have H:=Lh b;refine zq 0 43 b ?_;refine zq 1 44 b ?_;refine zq 2 45 b ?_;refine zq 3 46 b ?_;refine zq 4 47 b ?_;refine zq 5 48 b ?_;refine zq 6 49 b ?_;refine zq 7 50 b ?_;refine zq 8 51 b ?_;refine zq 9 52 b ?_;refine zq 10 53 b ?_;refine zq 11 54 b ?_;refine zq 12 55 b ?_;refine zq 13 56 b ?_;refine zq 14 57 b ?_;refine zs 15 rfl fun k c=>?_
 go_simp;refine c.out _ _ ⟨Fz H.out.1 _,Fz H.out.2.1 _,Fz H.out.2.2.1 _,Fz H.out.2.2.2.1 _,Fz H.out.2.2.2.2 _⟩ fun b=>?_
 clear c k;refine zs 16 rfl fun k c=>?_
 rw[AQ (by rfl)];refine wp_append_lies _ (.tmp 48) (.tmp 58) 56 rfl 0 74 dq _ 4 32 Tryz.underlying56 cf cp cq cr rfl (by omega) (.slice B i G) i _ rfl (J.out.alloc _) (zA Y.heap.size 0) 1 1 [zU ch,zI seq,zI er,zI v] rfl rfl (World.news_of_block (cs:=#[zU ch,zI seq,zI er,zI v]) (t:=74) (fr:=(0,0)) (heap_alloc_new Y _)) (by simp[Value.oneCell']) (by omega) (by unfold maxLen;omega) (by omega) (by omega) (Y.heap.size+1) (by simp) ?_;intro u aa ay bv ce bz dn;rw[Ga 59 (by rfl)];dsimp only[Act.put,AZ,Bq,Bi];have P:Am (fun e=>(Value.slice B i G).ownBlock=some e) Y ay:=((Aa _ Y).alloc _).grown ce fun e f _=>f
 have ee:=Lh (af.out.Ab P (Ba J.out af.out (by decide)));have j:=Lh (an.out.Ab P (Ba J.out an.out (by decide)));have bk:=Lh (Aj ai.out P fun g hq a=>Ex ai.out J.out (by decide) hq a);have dh:=Lh (al.out.AJ P fun e _ a=>⟨bo.out e a,Qf ak.out a (by decide)⟩);have dc:Hid ((Value.slice B i G).ownBlock=some u∨w.heap.size<=u):=Lh (bz.imp id fun f=>by have:=al.out.size;omega);have bn:=Lh bv;clear bv ce bz dn P;refine c.out _ _ ⟨ee.out.cell 13,j.out.cell 1,j.out.cell 2,j.out.cell 8,j.out.cell 9⟩ fun b=>?_
 clear c k;refine zs 17 rfl fun k c=>?_
 go_simp;refine c.out _ _ ⟨ee.out.cell 13,j.out.cell 1,j.out.cell 2,j.out.cell 8,j.out.cell 9⟩ fun b=>?_
 clear c k;refine zs 18 rfl fun k c=>?_
 go_simp;refine c.out _ _ ⟨ee.out.cell 13,j.out.cell 1,j.out.cell 2,j.out.cell 8,j.out.cell 9⟩ fun b=>?_
 clear c k;refine zs 19 rfl fun k c=>?_
 go_simp;refine c.out _ _ ⟨ee.out.cell 13,j.out.cell 1,j.out.cell 2,j.out.cell 8,j.out.cell 9⟩ fun b=>?_
 clear c k;refine zl fun k c=>?_
 have ds:=ee.out.cell 13;have dt:=ee.out.frozen 13;go_simp;refine c.out _ _ ?_;clear c k;refine zd ?_;have ab:=(Aa (fun e=>e=d.nb) ay).setCell (p:=zA d.nb 13) (fun _=>rfl) (zS u 0 (i+1) aa);have Z:=Lh (dh.out.AJ ab fun e _ a=>by rw[show e=d.nb from a];exact⟨ah.out,_,_,s.out.BR,by decide⟩);have bc:=Lh (ee.out.Dw 13 (zS u 0 (i+1) aa));have aj:=Lh (Aj bn.out ab fun g hq a=>Ba bn.out ee.out (by decide) (by rw[hq,show g=d.nb from a]));have bh:=Lh (Aj bk.out ab fun g hq a=>Ba bk.out ee.out (by decide) (by rw[hq,show g=d.nb from a]));clear ab ds dt cf cp cq cr;generalize ay.setCell (zA d.nb 13) (zS u 0 (i+1) aa)=eb at Z bc aj bh ⊢;go_end0;refine⟨rfl,dd.out.upd jn _ (Z.out.mono fun e _ a=>a.1) ⟨vo,.slice ba dr cu,zS h 0 0 q,zS u 0 (i+1) aa,bc.out,.inl ah.out,(s.out.ro.off Z.out (by decide) (by decide) (by decide)).wider fun e a=>.inl a,(s.out.rl.off Z.out (by decide)).wider fun e a=>.inl a,⟨bh.out,fun g hq=>.inl (df.out g hq)⟩,⟨by rw[Ap,<- de.out,Ez];exact aj.out,fun g hq=>?_⟩⟩⟩;rcases dc.out with f|f
 ·have:=bo.out u f;simp[Value.ownBlock] at hq;subst hq;exact .inl this
 ·have dp:u=g:=by simpa [Value.ownBlock] using hq
  subst dp;exact .inr ⟨f,Gd aj.out (by simp[Value.ownBlock])⟩
end

theorem Uh (w:Bc):Calls Tryz.prog 95 #[.agg #[zO,zN]] w (Rt (.agg #[zO,zN]) (Au w)):=by
 have b:Hid (AX (w.alloc (.cells #[zO,zN] 40)) w.heap.size 40 #[zO,zN]):=Lh (AX.new w _ _);have c:Hid (Au w (w.alloc (.cells #[zO,zN] 40))):=Lh ((Aa _ w).alloc _);go_in;go_upto_region 1 with(fail)
 obtain⟨d,g⟩:∃ z,z=w.heap.size:=⟨_,rfl⟩
 have hs1:d+1=(w.alloc (.cells #[zO,zN] 40)).heap.size:=by simp[g]
 generalize w.alloc (.cells #[zO,zN] 40)=h at b c hs1 ⊢;have i:Hid (AX (h.alloc (.cells #[zO,zN] 40)) h.heap.size 40 #[zO,zN]):=Lh (AX.new h _ _);replace b:=Lh (b.out.alloc (.cells #[zO,zN] 40));replace c:=Lh (c.out.alloc (.cells #[zO,zN] 40));rw[<- hs1] at i;rw[<- g] at b ⊢;generalize h.alloc (.cells #[zO,zN] 40)=l at b i c ⊢;have u:=Lh g;clear hs1 g;have r:Cl l d 0 zO:=b.out.cell 0;have s:Cl l d 1 (zN):=b.out.cell 1;refine GZ (fun W=>Cl W d 0 zO/\Cl W d 1 (zN)) ⟨r,s⟩ fun a=>?_
 have f:=Lh b.out.drew;have m:=Lh i.out.drew;have o:=Lh c.out.drew;clear r s;generalize l.drew=D at f m o a ⊢;refine hq 0 3 a ?_;refine hq 1 4 a ?_;refine hq 2 5 a ?_;refine hq 3 6 a ?_;refine Gg 4 fun j e=>?_
 go_simp;refine(QS _).mono ?_;rintro y E ⟨rfl,rfl⟩;go_wp2;refine e.out _ _ ⟨f.out.cell 0,f.out.cell 1⟩ fun a=>?_
 clear e j;refine hq 5 8 a ?_;refine Gg 6 fun j e=>?_
 rw[AQ (by rfl)];refine Ck (.tmp 2) (.tmp 8) rfl rfl rfl m.out Fp rfl (by simp[Value.oneCell']) ?_;intro q k A;clear A;rw[CZ (by rfl)];have t:=Lh q;have x:=Lh (o.out.AJ k fun C B y=>by have:=u.out;omega);have n:=Lh (f.out.Ab k (by omega));clear q k;refine e.out _ _ ⟨n.out.cell 0,n.out.cell 1⟩ fun a=>?_
 clear e j;refine zw ?_;clear a;go_wp2;refine bodyPost_ret (v:=.agg #[zO,zN]) (Gz (p:=2) Tryz.results95 _ rfl t.out Tryz.underlying40 rfl Fp) rfl ?_;exact⟨rfl,x.out⟩
theorem KY {g n c q:Nat} (a:(Value.slice (some (zA g 0)) n c).ownBlock=some q):g=q:=by simpa [Value.ownBlock] using a
theorem ED.off {cs:List Eb} {W a:Bc} {o:Nat->Nat} {g:Nat} (c:ED cs W o) (d:Am (fun k=>k=g) W a) (i:o g=0):ED cs a o :=
 ⟨fun l b h=>b.Ab (c.p l b h) d fun k e f=>by rw[f,i] at e;omega,fun k j=>c.z k (AV d.size j)⟩
theorem Ew.off {x:Option Nat} {o c:Nat->Nat} {w W a:Bc} {g:Nat} (b:Ew x o c w W) (d:Am (fun k=>k=g) W a) (f:w.heap.size<=g):Ew x o c w a :=
 ⟨b.t.AJ d fun k h e=>by omega,b.z⟩
theorem ED.mX {cs:List Eb} {W c:Bc} {o:Nat->Nat} {x:Option Nat} (h:ED cs W o) (i:Nat) (f:Eb) (A:Nat->Prop) (j:Am (fun k=>o k=i+1) W c) (s:f.P c fun k=>o k=i+1∨(A k/\W.heap.size<=k/\k<c.heap.size)):∃ e,ED (cs.set i f) c e/\Ew x o e W c/\(∀ k,k<W.heap.size->e k=o k)/\∀ k,W.heap.size<=k->¬A k->e k=0:=by
 classical
 refine⟨fun k=>if k<W.heap.size then o k else if A k/\k<c.heap.size then i+1 else 0,⟨fun l g b=>?_,fun k d=>?_⟩,⟨j.mono fun k _ a hF=>by have:=hF.1;omega,fun k d hF=>?_⟩,fun k d=>?_,fun k d r=>?_⟩
 ·rw[Eh] at b;by_cases n:i=l
  ·subst n;rw[AQ rfl] at b;split at b
   ·cases b;refine f.wider s fun k a=>?_
    rcases a with a|⟨p,q,m⟩
    ·show(if k<W.heap.size then o k else _)=i+1;rw[AQ (h.lt a)];exact a
    ·show(if k<W.heap.size then o k else _)=i+1;rw[Bg (by omega),AQ ⟨p,m⟩]
   ·cases b
  ·rw[Bg n] at b;refine g.wider (g.Ab (h.p l g b) j fun k q m=>by omega) fun k a=>?_
   show(if k<W.heap.size then o k else _)=l+1;rw[AQ (h.lt a)];exact a
 ·have:=j.size;show(if k<W.heap.size then _ else _)=0;rw[Bg (by omega),Bg fun a=>by omega]
 ·show(if k<W.heap.size then o k else _)=0;rw[AQ d];exact hF.1
 ·show(if k<W.heap.size then o k else _)=o k;rw[AQ d]
 ·show(if k<W.heap.size then _ else _)=0;rw[Bg (by omega),Bg fun a=>r a.1]
section
variable {w w' W:Bc} {x:Option Nat} {cs:List Eb} {o:Nat->Nat} {d:Fb} {S:List Led.Vl} {M:List Led.Made} {T:List Int}
def nQ (x:Option Nat) (cs:List Eb) (jb jn c:Nat) (ch b nx op arg:Int) (d:Fb) (S:List Led.Vl) (M:List Led.Made) (T:List Int) (w:Bc) (o:Nat->Nat) (e:Ending) (w':Bc):Prop :=
 e= .returned (.tuple #[.agg #[zI d.num,zI b,.string (Dy (F8 ch nx op arg))],zO])/\∃ a,Wrote M a ((ch,0,nx,Dy (F8 ch nx op arg)),d.num)/\FE x ((cs.set jn (Dv {d with L:=[(ch,b,nx+1)],C:=[(ch,nx,op,arg)]})).set jb (Eg c S a T)) o w w'
theorem Z9 {jb jn an:Nat} {ch u nx op arg:Int} (f:ED cs w o) (bc:cs[jb]?= some (Eg an S M T)) (al:cs[jn]?= some (Dv d)) (ea:d.kb=an) (bz:jn≠jb) (dq:d.L=[(ch,u,nx)]) (hC:d.C=[]) (dr:M.length<2000) (eb:0<=d.num) (ec:d.num<=2)
  (aj:Ey ch) (X:ch/8192=2) (ce:0<=nx) (am:nx<=1000) (ha:G8 op arg) :
  Calls Tryz.prog 52 #[zP d.nb,zO,.agg #[zO,zI op,zI arg,zO,zN]] w (nQ x cs jb jn an ch u nx op arg d S M T w o):=by
 have cj:=Lh fun W=>MS op arg W ha
 have eo:=Lh fun(W:Bc) (gb:Nat->Nat) (cs:List Eb) (bv:Fb) (I:ED cs W gb) (bc:cs[jb]?= some (Eg an S M T)) (al:cs[jn]?= some (Dv bv)) (fq:bv.kb=an) (dn:bv.num=d.num)=>PW (x:=x) I bc al fq bz (zI 2) (zU ch) (zI nx) zO (zI op) (zI arg) zO (zN) zO zO (zE) (zN) u ch 0 nx (Dy (F8 ch nx op arg)) (Dy (F8 ch nx op arg)) aj X (.inl rfl) ce am (AV (QN aj am ha) (by omega)) (by rw[dn];exact eb) (by rw[dn];exact ec) dr (fun W=>Rj ch nx op arg W aj X ce am ha) fun W=>NQ ch nx op arg W aj X ce am ha
 unfold Vq at cj;obtain⟨ej,gm,gl,ek,y⟩:=f.node al;have bf:=y.rl.1;rw[dq] at bf;obtain⟨c,U,rfl,fv⟩:=J9 bf (by simp);have be:=y.rc.1;rw[hC] at be;obtain⟨m,n,rfl⟩:=BD be;have N:=Lh y;have R:Hid (w.ownsRow 0 200 3 (zS c 0 1 U) 1 [zU ch,zI u,zI nx]):=Lh bf;have br:Hid (w.ownsRow 0 104 12 (.slice m 0 n) 0 []):=Lh be;have dy:o c=jn+1:=y.rl.2 c (by simp[Value.ownBlock]);have bk:=Lh dy;have au:Hid (∀ V,(Value.slice m 0 n).ownBlock=some V->o V=jn+1):=Lh fun V fu=>y.rc.2 V fu
 have cz:Hid (o d.nb=jn+1):=Lh y.f;have bl:=Lh f;have er:=Lh bc;have ew:=Lh al;have et:=Lh ea;have cy:=Lh bz;have gi:nx<=1000:=am;have E:Hid (Loc o (w.alloc (.cells #[zO,zI op,zI arg,zO,zN] 48)) w.heap.size 48 #[zO,zI op,zI arg,zO,zN]):=Lh (Loc.new f _ (by decide) (by decide));have B:Hid (Au w (w.alloc (.cells #[zO,zI op,zI arg,zO,zN] 48))):=Lh ((Aa _ w).alloc _);have dk:Hid (Cl w d.nb 11 (zS c 0 1 U)):=Lh (y.BR.cell 11);have fm:Hid (Cl w d.nb 12 (.slice m 0 n)):=Lh (y.BR.cell 12);have fn:Hid (Cl w d.nb 6 (.bool false)):=Lh (y.BR.cell 6);have gj:nx+1<=1001:=by omega
 clear f bc al ea bz dq hC dr eb ec aj X ha y bf fv be dy;obtain⟨fx,dz,ee,ef,eg⟩:=info_parts kT;go_in;go_upto_region 1 with(fail)
 obtain⟨ac,bd⟩:∃ V,V=w.heap.size:=⟨_,rfl⟩
 have cf:ac+1=(w.alloc (.cells #[zO,zI op,zI arg,zO,zN] 48)).heap.size:=by simp[bd]
 generalize w.alloc (.cells #[zO,zI op,zI arg,zO,zN] 48)=bh at E B cf ⊢;have ar:Hid (Loc o (bh.alloc (.cells #[zO,zO,zE] 107)) bh.heap.size 107 #[zO,zO,zE]):=Lh (Loc.new (bl.out.AB B.out) _ (by decide) (by decide));replace E:=Lh (E.out.AB ((T0 bh).alloc (.cells #[zO,zO,zE] 107)));replace B:=Lh (B.out.alloc (.cells #[zO,zO,zE] 107));rw[<- cf] at ar;rw[<- bd] at E ⊢;generalize bh.alloc (.cells #[zO,zO,zE] 107)=go at E ar B ⊢;have cl:=Lh bd;clear cf bd;obtain⟨i,cb⟩:∃ r,r=ac+1:=⟨_,rfl⟩
 have de:=Lh cb;rw[<- cb] at ar ⊢;clear cb;have gg:=Ae fn.out B.out;have cg:=Ae dk.out B.out;go_upto_region 7 with(first
  |(refine AA rfl (.tmp 5) rfl rfl E.out.BR Tryz.underlying48 rfl IE ?_)
  |(go_at_call 100;refine(cj.out _).mono ?_;rintro a el ⟨rfl,s⟩;have cn:=Lh (B.out.to s);have bu:=Lh (E.out.AB s);have ez:=Lh (ar.out.AB s);clear s))
 clear gg cg;have cg:=Ae dk.out cn.out;have fy:Cl el ac 3 zO:=bu.out.BR.cell 3;have fz:Cl el ac 4 (zN):=bu.out.BR.cell 4;have en:=Lh Uh;go_upto_region 9 with(first
  |(go_at_call 95;refine(en.out _).mono ?_;rintro a gp ⟨rfl,s⟩;have es:=Lh (cn.out.to s);have az:=Lh (bu.out.AB s);have aw:=Lh (ez.out.AB s);clear s)
  |(refine IX rfl (.tmp 46) (.tmp 45) rfl 3 rfl rfl az.out.BR Fp (Nat.le_of_ble_eq_true rfl) (by simp[Value.oneCell']) (cs':=#[zO,zI op,zI arg,zO,zN]) rfl ?_;intro D dp bw;have dj:Hid (Loc o D ac 48 #[zO,zI op,zI arg,zO,zN]):=Lh ⟨dp,az.out.z,az.out.n1,az.out.n2⟩;have co:=Lh (es.out.AJ bw fun g s a=>by have:=cl.out;omega);have fa:Hid (Loc o D i 107 #[zO,zO,zE]):=Lh ⟨aw.out.BR.Ab bw (by have:=de.out;omega),aw.out.z,aw.out.n1,aw.out.n2⟩;clear dp bw))
 clear cg fy fz;have cr:=Lh (Aj R.out co.out fun _ _ f=>f);have eh:Cl D c 0 (zU ch):=cr.out.cellAt 0 (by omega);have bg:Cl D c 2 (zI nx):=cr.out.cellAt 2 (by omega);refine EQ 11 (S:=fun W=>Cl W c 0 (zU ch)/\Cl W c 2 (zI nx)/\AX W ac 48 #[zO,zI op,zI arg,zO,zN]) (by kernel_rfl) ⟨eh,bg,dj.out.BR.drew⟩ fun b=>?_
 have fl:=Lh (dj.out.AB (T0 D).drew);have ae:=Lh (co.out.to (T0 D).drew);have P:=Lh (fa.out.AB (T0 D).drew);clear eh bg;generalize D.drew=j at fl ae P b ⊢;have K:=Lh b;refine zq 0 47 b ?_;refine zq 1 48 b ?_;refine zq 2 49 b ?_;refine zq 3 50 b ?_;refine zq 4 51 b ?_;refine zq 5 52 b ?_;refine zq 6 53 b ?_;refine zq 7 54 b ?_;refine zq 8 55 (hx:=fun W I=>Ce (.tmp 5) rfl rfl I.2.2 Tryz.underlying48 rfl IE) b ?_;refine zq 9 56 b ?_;refine zs 10 rfl fun h e=>?_
 go_simp;refine e.out _ _ ⟨Fz K.out.1 _,Fz K.out.2.1 _,K.out.2.2.alloc _⟩ fun b=>?_
 clear e h;have dl:Hid (AX (j.alloc (.cells #[zO,zU 0,zO,zO,zO,zO,zO,zN,zO,zO,zE,zN] 104)) j.heap.size 104 #[zO,zU 0,zO,zO,zO,zO,zO,zN,zO,zO,zE,zN]):=Lh (AX.new j _ _);refine zl fun h e=>?_
 rw[AQ (by rfl)];refine Ck (.tmp 9) (.tmp 56) rfl rfl rfl dl.out BM rfl (by simp[Value.oneCell']) ?_;intro ai gr cd;clear cd;rw[CZ (by rfl)];refine e.out _ _ ?_;clear e h;refine zd ?_;have bt:=((Aa (fun g=>g=j.heap.size) j).alloc (.cells #[zO,zU 0,zO,zO,zO,zO,zO,zN,zO,zO,zE,zN] 104)).AJ gr fun _ _ a=>a
 have af:=Lh (ae.out.AJ bt fun g s a=>by have:=ae.out.size;omega);have Q:Hid (Loc o ((j.alloc (.cells #[zO,zU 0,zO,zO,zO,zO,zO,zN,zO,zO,zE,zN] 104)).setRow j.heap.size #[zI 2,zU ch,zI nx,zO,zI op,zI arg,zO,zN,zO,zO,zE,zN]) i 107 #[zO,zO,zE]):=Lh ⟨P.out.BR.Ab bt (by have:=P.out.BR.lt;omega),P.out.z,P.out.n1,P.out.n2⟩;have G:Hid (Loc o ((j.alloc (.cells #[zO,zU 0,zO,zO,zO,zO,zO,zN,zO,zO,zE,zN] 104)).setRow j.heap.size #[zI 2,zU ch,zI nx,zO,zI op,zI arg,zO,zN,zO,zO,zE,zN]) j.heap.size 104 #[zI 2,zU ch,zI nx,zO,zI op,zI arg,zO,zN,zO,zO,zE,zN]):=Lh ⟨ai,bl.out.z _ ae.out.size,by decide,by decide⟩;have cx:Hid (w.heap.size<=j.heap.size):=Lh ae.out.size;clear gr ai bt b dl;generalize (j.alloc (.cells #[zO,zU 0,zO,zO,zO,zO,zO,zN,zO,zO,zE,zN] 104)).setRow j.heap.size #[zI 2,zU ch,zI nx,zO,zI op,zI arg,zO,zN,zO,zO,zE,zN]=ab at af Q G ⊢;generalize j.heap.size=k at G cx ⊢;have ag:=Lh (Aj R.out af.out fun _ _ f=>f);have bg:Cl ab c 2 (zI nx):=ag.out.cellAt 2 (by omega);have fs:ab.frozen? (zA c 2)=false:=ag.out.frozenAt 2;go_upto_region 11 with(fail)
 have Z:=(Aa (fun g=>g=c) ab).setCell (p:=zA c 2) (fun _=>rfl) (zI (nx+1));have di:Hid (Am (fun g=>o g=jn+1/\Ty [200,104,72] w g) w (ab.setCell (zA c 2) (zI (nx+1)))):=Lh (((af.out.mono fun _ _ f=>f.elim).AJ Z (fun _ _ a=>a):Am (fun g=>g=c) w _).mono fun g _ a=>by rw[show g=c from a];exact⟨bk.out,Qf R.out (by simp[Value.ownBlock]) (by decide)⟩);have ct:Hid ((ab.setCell (zA c 2) (zI (nx+1))).ownsRow 0 200 3 (zS c 0 1 U) 1 [zU ch,zI u,zI (nx+1)]):=Lh (ag.out.stored 2 _).1;have ak:(Value.slice (some (zA c 0)) 1 U).ownBlock=some c:=by simp[Value.ownBlock]
 have bj:=Lh ((N.out.BR.Ab af.out id).Ab Z fun(a:d.nb=c)=>Ba R.out N.out.BR (by decide) (by rw[a];exact ak));have df:=Lh (Aj (Aj br.out af.out fun _ _ f=>f) Z fun l hq a=>Ex br.out R.out (by decide) hq (by rw[show l=c from a];exact ak));have bo:Hid (Loc o _ k 104 #[zI 2,zU ch,zI nx,zO,zI op,zI arg,zO,zN,zO,zO,zE,zN]):=Lh ⟨G.out.BR.Ab Z fun(a:k=c)=>Ba ag.out G.out.BR (by decide) (by rw[a];exact ak),G.out.z,G.out.n1,G.out.n2⟩;have dd:Hid (Loc o _ i 107 #[zO,zO,zE]):=Lh ⟨Q.out.BR.Ab Z fun(a:i=c)=>Ba ag.out Q.out.BR (by decide) (by rw[a];exact ak),Q.out.z,Q.out.n1,Q.out.n2⟩;clear bg fs Z ak;generalize ab.setCell (zA c 2) (zI (nx+1))=J at di ct bj df bo dd ⊢;have ci:Cl J d.nb 12 (.slice m 0 n):=by have:=bj.out.cell 12;exact this.trans ((N.out.BR.cell 12).symm.trans fm.out)
 have gh:Hid (Cl J d.nb 12 (.slice m 0 n)):=Lh ci;have ad:Hid ((kV d ej (zS c 0 1 U) (.slice m 0 n) ek)[12]?= some (.slice m 0 n)):=Lh rfl;refine EQ 12 (S:=fun W=>Cl W d.nb 12 (.slice m 0 n)/\AX W k 104 #[zI 2,zU ch,zI nx,zO,zI op,zI arg,zO,zN,zO,zO,zE,zN]) (by kernel_rfl) ⟨ci,bo.out.BR.drew⟩ fun b=>?_
 have bs:=Lh di.out.drew;have bm:=Lh (Aj ct.out (T0 J).drew fun _ _ f=>f);have bi:=Lh bj.out.drew;have ax:=Lh (Aj df.out (T0 J).drew fun _ _ f=>f);have F:=Lh (bo.out.AB (T0 J).drew);have H:=Lh (dd.out.AB (T0 J).drew);clear ci;generalize J.drew=ap at bs bm bi ax F H b ⊢;have K:=Lh b;refine zq 0 64 b ?_;refine zq 1 65 b ?_;refine zq 2 66 b ?_;refine zq 3 67 b ?_;refine zq 4 68 b ?_;refine zq 5 69 b ?_;refine zq 6 70 (hx:=fun W I=>Ce (.tmp 9) rfl rfl I.2 Tryz.underlying104 rfl BM) b ?_;refine zs 7 rfl fun h e=>?_
 go_simp;refine e.out _ _ ⟨Fz K.out.1 _,K.out.2.alloc _⟩ fun b=>?_
 clear e h;refine zs 8 rfl fun h e=>?_
 rw[AQ (by rfl)];refine wp_append_lies _ (.tmp 69) (.tmp 71) 68 rfl 0 104 fx _ 12 136 Tryz.underlying68 dz ee ef eg rfl (by omega) (.slice m 0 n) 0 _ rfl (ax.out.alloc _) (zA ap.heap.size 0) 1 1 [zI 2,zU ch,zI nx,zO,zI op,zI arg,zO,zN,zO,zO,zE,zN] rfl rfl (World.news_of_block (cs:=#[zI 2,zU ch,zI nx,zO,zI op,zI arg,zO,zN,zO,zO,zE,zN]) (t:=104) (fr:=(0,0)) (heap_alloc_new ap _)) (by simp[Value.oneCell']) (by omega) (by unfold maxLen;omega) (by omega) (by omega) (ap.heap.size+1) (by simp) ?_;intro q ba aq dm dx dw fw;rw[Ga 72 (by rfl)];dsimp only[Act.put,AZ,Bq,Bi];have aa:Am (fun g=>(Value.slice m 0 n).ownBlock=some g) ap aq:=((Aa _ ap).alloc _).grown dx fun g f _=>f
 have gq:=Lh (bi.out.Ab aa (Ba ax.out bi.out (by decide)));have da:Hid ((Value.slice m 0 n).ownBlock≠some k/\(Value.slice m 0 n).ownBlock≠some i):=Lh ⟨fun a=>by have:=au.out k a;have:=F.out.z;omega,fun a=>by have:=au.out i a;have:=H.out.z;omega⟩;have z:Hid (Loc o aq k 104 #[zI 2,zU ch,zI nx,zO,zI op,zI arg,zO,zN,zO,zO,zE,zN]):=Lh ⟨F.out.BR.Ab aa da.out.1,F.out.z,F.out.n1,F.out.n2⟩;have ah:Hid (Loc o aq i 107 #[zO,zO,zE]):=Lh ⟨H.out.BR.Ab aa da.out.2,H.out.z,H.out.n1,H.out.n2⟩;have cp:=Lh (Aj bm.out aa fun l hq a=>Ex bm.out ax.out (by decide) hq a);have fj:=Lh (bs.out.AJ aa fun g _ a=>⟨au.out g a,Qf br.out a (by decide)⟩);have cm:Hid (o q=jn+1∨(w.heap.size<=q/\q≠k/\q≠i)):=Lh (dw.imp (fun a=>au.out q a) fun a=>by have:=bs.out.size;have:=F.out.BR.lt;have:=H.out.BR.lt;omega);have db:=Lh dm;clear dm dx dw fw aa;refine e.out _ _ ⟨(gq.out.cell 12).trans ad.out,z.out.BR⟩ fun b=>?_
 clear e h;refine zs 9 rfl fun h e=>?_
 go_simp;refine e.out _ _ ⟨(gq.out.cell 12).trans ad.out,z.out.BR⟩ fun b=>?_
 clear e h;refine zs 10 rfl fun h e=>?_
 go_simp;refine e.out _ _ ⟨(gq.out.cell 12).trans ad.out,z.out.BR⟩ fun b=>?_
 clear e h;refine zs 11 rfl fun h e=>?_
 go_simp;refine e.out _ _ ⟨(gq.out.cell 12).trans ad.out,z.out.BR⟩ fun b=>?_
 clear e h;refine zl fun h e=>?_
 have gc:=(gq.out.cell 12).trans ad.out;have gd:=gq.out.frozen 12;go_simp;refine e.out _ _ ?_;clear e h;refine zd ?_;have Y:=(Aa (fun g=>g=d.nb) aq).setCell (p:=zA d.nb 12) (fun _=>rfl) (zS q 0 1 ba);have ay:=Lh (fj.out.AJ Y fun g _ a=>by rw[show g=d.nb from a];exact⟨cz.out,_,_,N.out.BR,by decide⟩);have ck:=Lh (gq.out.Dw 12 (zS q 0 1 ba));have av:=Lh (Aj cp.out Y fun l hq a=>Ba cp.out gq.out (by decide) (by rw[hq,show l=d.nb from a]));have bp:=Lh (Aj db.out Y fun l hq a=>Ba db.out gq.out (by decide) (by rw[hq,show l=d.nb from a]));have gs:Hid (Loc o _ k 104 #[zI 2,zU ch,zI nx,zO,zI op,zI arg,zO,zN,zO,zO,zE,zN]):=Lh ⟨z.out.BR.Ab Y (z.out.BR.GJ gq.out (by decide)),z.out.z,z.out.n1,z.out.n2⟩;have O:Hid (Loc o _ i 107 #[zO,zO,zE]):=Lh ⟨ah.out.BR.Ab Y (ah.out.BR.GJ gq.out (by decide)),ah.out.z,ah.out.n1,ah.out.n2⟩;clear Y gc gd dz ee ef eg;generalize aq.setCell (zA d.nb 12) (zS q 0 1 ba)=A at ay ck av bp gs O ⊢;obtain⟨ao,ds,du,hA13,bx⟩:=bl.out.mX (x:=x) jn (Dv {d with L:=[(ch,u,nx+1)],C:=[(ch,nx,op,arg)]}) (fun g=>g=q) (ay.out.mono fun g _ a=>a.1) ⟨ej,zS c 0 1 U,zS q 0 1 ba,ek,ck.out,.inl cz.out,(N.out.ro.off ay.out (by decide) (by decide) (by decide)).wider fun g a=>.inl a,⟨av.out,fun l hq=>by rw[<- KY hq];exact .inl bk.out⟩,⟨bp.out,fun l hq=>by rw[<- KY hq];exact cm.out.imp id fun f=>⟨rfl,f.1,Gd bp.out (by simp[Value.ownBlock])⟩⟩,(N.out.rr.off ay.out (by decide)).wider fun g a=>.inl a⟩;have fd:=Lh ds;have fg:=Lh du;have ca:k≠q/\i≠q:=by
  have ft:=gs.out.z;have X:=O.out.z;rcases cm.out with f|f
  ·exact⟨fun a=>by rw[a] at ft;omega,fun a=>by rw[a] at X;omega⟩
  ·exact⟨fun a=>f.2.1 a.symm,fun a=>f.2.2 a.symm⟩
 have cc:w.heap.size<=i:=by have:=de.out;have:=cl.out;omega
 have fb:=Lh cc;have cu:Hid (Loc ao A k 104 #[zI 2,zU ch,zI nx,zO,zI op,zI arg,zO,zN,zO,zO,zE,zN]):=Lh ⟨gs.out.BR,bx k cx.out ca.1,gs.out.n1,gs.out.n2⟩;have ey:Hid (Loc ao A i 107 #[zO,zO,zE]):=Lh ⟨O.out.BR,bx i cc ca.2,O.out.n1,O.out.n2⟩;have ex:Hid (ao c=jn+1):=Lh ((hA13 c (Gd R.out (by simp[Value.ownBlock]))).trans bk.out);have fc:Hid (k≠i):=Lh (gs.out.BR.GJ O.out.BR (by decide));clear ds du hA13 bx ca cc;have ei:Cl A c 1 (zI u):=av.out.cellAt 1 (by omega);go_upto_region 12 with(fail)
 refine GZ (fun W=>Cl W c 1 (zI u)/\AX W k 104 #[zI 2,zU ch,zI nx,zO,zI op,zI arg,zO,zN,zO,zO,zE,zN]) ⟨ei,cu.out.BR.drew⟩ fun b=>?_
 have dg:=Lh (fd.out.AB (T0 A).drew);have dh:=Lh (fg.out.AB (T0 A).drew);have cv:=Lh (cu.out.AB (T0 A).drew);have dc:=Lh (ey.out.AB (T0 A).drew);have cq:=Lh (Aj av.out (T0 A).drew fun _ _ f=>f);clear ei;generalize A.drew=gf at dg dh cv dc cq b ⊢;refine hq 0 76 b ?_;refine hq 1 77 b ?_;refine hq 2 78 b ?_;refine hq 3 79 b ?_;refine hq 4 80 b ?_;refine hq 5 81 (hx:=fun W I=>Ce (.tmp 9) rfl rfl I.2 Tryz.underlying104 rfl BM) b ?_;have ep:=Lh (eo.out gf ao _ {d with L:=[(ch,u,nx+1)],C:=[(ch,nx,op,arg)]} dg.out (FX er.out cy.out) (MH ew.out) et.out rfl);refine Gg 6 fun h e=>?_
 go_simp;refine ep.out.mono ?_;rintro a gn ⟨rfl,dv,fp,ed,ga,dt,bb⟩;have fk:=Lh ed;have fe:=Lh dt;have fh:=Lh (dh.out.trans bb);have cw:=Lh (cv.out.stay bb);have bq:=Lh (dc.out.stay bb);have bn:=Lh (Aj cq.out dv fun l hq (a:ao l=jb+1)=>by have:=ex.out;rw[<- KY hq] at a;have:=cy.out;omega);clear ed dt bb dv;go_wp2;refine e.out _ _ ⟨bn.out.cellAt 1 (by omega),cw.out.BR⟩ fun b=>?_
 clear e h;refine Gg 7 fun h e=>?_
 rw[AQ (by rfl)];refine Ck (.tmp 6) (.tmp 82) rfl rfl rfl bq.out.BR Ht rfl (by simp[Value.oneCell']) ?_;intro ai gr cd;clear cd;rw[CZ (by rfl)];have eq:=Lh ai;have ff:=Lh (fe.out.off gr bq.out.z);have fi:=Lh (fh.out.off gr fb.out);have ev:=Lh (cw.out.BR.Ab gr fc.out);have eu:=Lh (Aj bn.out gr fun l hq a=>Ba bn.out bq.out.BR (by decide) (by rw[hq,show l=i from a]));clear ai gr;refine e.out _ _ ⟨eu.out.cellAt 1 (by omega),ev.out⟩ fun b=>?_
 clear e h;refine hq 8 7 b ?_;refine zw ?_;clear b;go_wp2;refine bodyPost_ret (v:=.tuple #[.agg #[zI d.num,zI u,.string (Dy (F8 ch nx op arg))],zO]) (CB (p:=6) (q:=7) Tryz.results52 _ rfl rfl eq.out Tryz.underlying107 rfl Ht) rfl ?_;exact⟨rfl,fp,fk.out,ga,ff.out,fi.out⟩
end

end Go.Proofs.YtcjcndnjpedniaaGreat
