/- A part of the proof of TopUsers. -/
import Derived.Test.YtcjcndnjpedniaaGreatB10
namespace Go.Proofs.YtcjcndnjpedniaaGreat
set_option linter.all false
set_option maxRecDepth 100000
set_option maxHeartbeats 8000000
open Go.RowKit
theorem gK:∀ x:Int,∀ u∈(JC x).cells.toList,u.oneCell'=true:=by intro x u a;simp[JC,Value.cells] at a;subst a;rfl
theorem iY (w:Bc) (base e:Nat) (cs:Array Value) (a:base<=w.heap.size) (b:cs.size<=maxLen):(w.alloc (.cells cs e)).ownsRow base e 1 (zS w.heap.size 0 cs.size cs.size) cs.size cs.toList :=
 ⟨by simp,.inr ⟨w.heap.size,cs.size,cs,rfl,a,heap_alloc_new w _,AY _,b,by simp,by rw[Fy];exact Bt (by simp)⟩⟩
theorem VI:(Tryz.prog.info? 25).map (fun i=>(i.zero,i.size,i.bytes))=some (some (zU 0),1,2):=by kernel_rfl
theorem iT (l:List Int):I5 (C8 l)=false:=by unfold I5;rw[FD,Ag];omega
theorem Yd {a b s:BB} (c:s=a∨s=b):s∈Xc [a,b]:=by
 obtain⟨f,g,_,d,e⟩:=Ma a b;rw[d];unfold GN;rcases e with⟨rfl,rfl⟩|⟨rfl,rfl⟩<;>split<;>simp<;>(try rcases c with c|c)<;>simp_all
theorem jX {s:BB} (b:CX s=true) (i:2<=Cc s):(IY s 0 1 (C8 [1])).2=0/\Kq s=C8 (1::(AU s).drop 1):=by
 obtain⟨k,h,j,_⟩:=E9 b;have e:I5 s=false:=by unfold I5;rw[Ag];omega
 have f:Jl s 0 1=true:=by unfold Jl;rw[Bb];omega
 have d:Cc (C8 [1])=1:=by unfold Cc;rw[FD];rfl
 have hq:¬8<Cc s-1+1:=by omega
 have a:IY s 0 1 (C8 [1])=(s.extract 0 (2*(0:Int)).toNat++C8 [1]++s.extract (2*((0:Int)+1)).toNat s.size,0):=by
  unfold IY;rw[e,iT,f,d];simp only[Bool.or_self,if_true,Bg hq];rfl
 refine⟨by rw[a],?_⟩;unfold Kq;rw[a];show s.extract 0 0++C8 [1]++s.extract 2 s.size=C8 ([1]++(AU s).drop 1);have g:s.size=2*(s.size/2):=by omega
 have hx:AU (s.extract 2 s.size)=(AU s).drop 1:=by
  have:=Ji s 1 (s.size/2);rw[<- g] at this;rw[show(2:Nat)=2*1 from rfl,this,Bt (by rw[BG];omega)]
 have c:(s.extract 2 s.size).size%2=0:=by rw[ByteArray.size_extract];omega
 rw[of_append,<- hx,Js c];apply Kt;simp only[Lp,IK];simp
theorem Xj {a b x:BB}:x∈[a,b]↔x=a∨x=b:=by simp
theorem ZM {signer frm n serial:Int} {speaker f b:BB} {t d:List BB} (h:2<=(AU speaker).length) (g:CX speaker=true) (l:D9 (f::t)=true) (m:b=C8 (1::(AU speaker).drop 1)) (j:∀ x,x∈d↔x∈[speaker,b]) (k:f::t=d):LP ⟨7,signer,speaker,f::t,frm,n,serial⟩:=by
 have e:2<=Cc speaker:=by unfold Cc;rw[BG] at h;omega
 obtain⟨i,a⟩:=jX g e;rw[<- m] at a;have c:∀ x,x∈f::t↔x=speaker∨x=b:=fun x=>by rw[k,j x,Xj]
 refine⟨e,g,i,?_,?_,?_⟩
 ·rw[a];exact(Cm l).2.2 _ ((c b).2 (.inr rfl))
 ·rw[Ju,a];exact fun x hx=>Yd ((c x).1 hx)
 ·rw[Ju,a];exact fun x hx=>(c x).2 (Qb hx)
section
variable {w:Bc}
theorem jP (signer frm F serial:Int) (speaker f:BB) (t:List BB) (A:Option Addr) (k:Nat) (w:Bc) (fa:speaker.size<=100) (ex:f.size<=100) (aq:CX f=true) (ht:t.length<=100) (cg:∀ s∈t,s.size<=100) (Y:CX speaker=true) (ax:D9 (f::t)=true) (I:Ay Value.string w w.heap.size 1 A (f::t)) :
  Calls Tryz.prog 21 #[.agg #[zI 7,zU signer,.string speaker,.slice A (t.length+1) k,zI frm,zI F,zI serial]] w (Jv (LP ⟨7,signer,speaker,f::t,frm,F,serial⟩) w):=by
 obtain⟨ei,bw,eg,ci,eh⟩:=info_parts VI;have bj:=Lh fun fp=>G7 speaker fp (by omega)
 have eq:=Lh Y;have eu:=Lh ax;have ev:=Lh cg;have ec:(AU speaker).length<=8:=by
  obtain⟨_,_,C,_⟩:=E9 Y;have:=BG speaker;unfold Cc at C;omega
 have cn:=Lh fun(A:Option Addr) (c:Nat) (b:List Int) (fp:Bc) (H:b.length<=1000) (I:Ay JC fp fp.heap.size 1 A b) (ee:∀ d∈b,Ey d)=>Xf A c b fp (by omega) I ee
 have co:=Lh fun(A:Option Addr) (k:Nat) (b:List BB) (fp:Bc) (H:b.length<=1000) (av:∀ s∈b,s.size<=1000) (I:Ay Value.string fp fp.heap.size 1 A b)=>Yw A k b fp H av I
 have cl:=Lh fun(bd ac:Option Addr) (r i bg bh:Nat) (bb bc:List BB) (fp:Bc) (C:Ay Value.string fp bg 1 bd bb) (ak:Ay Value.string fp bh 1 ac bc) (hx:bb.length<=1000000) (ef:bc.length<=1000000)=>XB bd ac r i bg bh bb bc fp hx ef C ak
 have af:Hid (∀ d∈(1:Int)::(AU speaker).drop 1,Ey d):=Lh (by
  intro d hx;rcases BI.1 hx with rfl|hx
  ·exact⟨by omega,by omega⟩
  ·exact QL speaker d (List.mem_of_mem_drop hx))
 have ae:Hid (∀ (J:List BB),2<=(AU speaker).length->(∀ d,d∈J↔d∈[speaker,C8 (1::(AU speaker).drop 1)])->f::t=J->LP ⟨7,signer,speaker,f::t,frm,F,serial⟩):=Lh fun J ak G dw=>ZM ak Y ax rfl G dw
 have dp:(C8 (1::(AU speaker).drop 1)).size<=1000:=by rw[FD,BF,Cb];omega
 have ah:Hid (∀ s∈[speaker,C8 (1::(AU speaker).drop 1)],s.size<=1000):=Lh (by intro s av;rcases Xj.1 av with rfl|rfl<;>omega);clear Y ax cg dp;have cw:=Lh I;obtain⟨fs,D,rfl,ds,bs⟩:=Ay.BV (V:=Value.string) (fun _=>rfl) I (j:=0) (by simp);have du:Cl w fs D (.string f):=bs;have bi:=Lh fun fp=>G7 f fp (by omega)
 have ad:=Lh fun fp=>I6 speaker fp (by omega)
 have dz:1<=(AU f).length:=by
  obtain⟨_,C,_⟩:=E9 aq;have:=BG f;unfold Cc at C;omega
 have cc:(AU f).length<=8:=by
  obtain⟨_,_,C,_⟩:=E9 aq;have:=BG f;unfold Cc at C;omega
 have cs:Hid (Cc f=((AU f).length:Int)):=Lh (by rw[BG];rfl);have bk:Hid ((AU f)[0]?= some (G6 f 0)):=Lh (by rw[Ah (by omega)];have l:=GM (s:=f) (i:=0) (by omega);exact Bu some l.symm);have bl:Hid (∀ fq,fq+1=(AU f).length->(AU f)[fq]?= some (G6 f fq)):=Lh fun fq hq=>by rw[Ah (by omega),GM (i:=fq) (by omega)]
 have da:Hid (∀ k:Int,0<=k->EE speaker=k->Ev speaker [k]=true):=Lh fun k g l=>by
  unfold EE at l;split at l
  ·rename_i C;unfold Ev;have:Cc speaker=1:=by unfold Cc;rw[BG] at C;omega
   simp[this,l]
  ·omega
 obtain⟨fq,hq⟩:∃ fq,fq+1=(AU f).length:=⟨(AU f).length-1,by omega⟩
 have ai:Hid (∀ N,Ey (G6 f N)):=Lh fun N=>IJ f N
 have O:=bk.out;have Q:=bl.out fq hq;have es:=Lh hq;obtain⟨ba,Z⟩:∃ d,d=G6 f 0:=⟨_,rfl⟩
 obtain⟨L,aa⟩:∃ d,d=G6 f (fq:Int):=⟨_,rfl⟩
 have fb:Ey ba:=by rw[Z];exact ai.out _
 have ay:Ey L:=by rw[aa];exact ai.out _
 rw[<- Z] at O;rw[<- aa] at Q;have cx:=Lh Z;have cy:=Lh aa;have cm:=Lh fun a fp (ha:Ey a)=>FL a fp ha
 obtain⟨b,H⟩:∃ b,b=AU f:=⟨_,rfl⟩
 obtain⟨fm,az⟩:∃ d,d=EE speaker:=⟨_,rfl⟩
 rw[<- H] at bi O Q dz cc;rw[<- az] at ad;have bm:=Lh H;have cz:=Lh az;have dy:fq+1=b.length:=by rw[H];exact hq
 have ey:0<=L/8192:=by have:=ay.1;omega
 have ez:L/8192<=7:=by have:=ay.2;omega
 have e:Hid (AX (w.alloc (.cells #[zI 7,zU signer,.string speaker,zS fs D (t.length+1) k,zI frm,zI F,zI serial] 31)) w.heap.size 31 #[zI 7,zU signer,.string speaker,zS fs D (t.length+1) k,zI frm,zI F,zI serial]):=Lh (AX.new w _ _);have n:Hid (Au w (w.alloc (.cells #[zI 7,zU signer,.string speaker,zS fs D (t.length+1) k,zI frm,zI F,zI serial] 31))):=Lh ((Aa _ w).alloc _);clear hq Z aa H az bk bl ai I bs aq;go_in;go_upto_region 1 with(fail)
 generalize w.alloc (.cells #[zI 7,zU signer,.string speaker,zS fs D (t.length+1) k,zI frm,zI F,zI serial] 31)=ek at e n ⊢;obtain⟨q,ar⟩:∃ q,q=w.heap.size:=⟨_,rfl⟩
 rw[<- ar] at e ⊢;have ep:=Lh ar;clear ar;obtain⟨x,r,i,o,y,z,B⟩:=Bh e.out;have df:Cl ek fs D (.string f):=(n.out.cell (p:=zA fs D) ds id).trans du;go_upto_region 2 with(go_at_call 41;refine(bi.out _).mono ?_;rintro K cj ⟨v,rfl,G,g⟩;obtain⟨ac,fc,rfl⟩:=BD G;replace e:=Lh (e.out.Ab g id);replace n:=Lh (n.out.to g);clear g)
 clear x r i o y z B df;obtain⟨x,r,i,o,y,z,B⟩:=Bh e.out;obtain⟨T,ab,rfl,br,ao⟩:=Ay.BV (V:=JC) (fun _=>rfl) (Ay.Ea (V:=JC) (fun _=>rfl) G) (j:=fq) (by omega);obtain⟨ew,fg,hA3,_,an⟩:=Ay.BV (V:=JC) (fun _=>rfl) (Ay.Ea (V:=JC) (fun _=>rfl) G) (j:=0) (by omega);cases hA3;have bq:b[fq]=L:=by have:=Q;rw[Ah (by omega)] at this;injection this
 have bp:b[0]=ba:=by have:=O;rw[Ah (by omega)] at this;injection this
 rw[bq] at ao;rw[bp] at an;have bu:Cl cj T (ab+fq) (zU L):=ao;have bt:Cl cj T ab (zU ba):=an;have bn:=Lh G;clear bq bp ao an G O Q;have dg:(0:Int)<=(b.length:Int)-1:=by omega
 have dh:(1:Int)<=(b.length:Int):=by omega
 have aj:(b.length:Int)-1<(b.length:Int):=by omega
 have di:IntKind.i64.wrap ((b.length:Int)-1)=(fq:Int):=by rw[IntKind.wrap_i64];omega
 have dj:((b.length:Int)-1)=(fq:Int):=by omega
 have dk:(fq:Int)<(b.length:Int):=by omega
 go_upto_region 3 with(go_at_call 17;refine(cm.out _ _ ay).mono ?_;rintro K fn ⟨rfl,rfl⟩)
 clear dg dh aj di dj dk cc;go_upto_region 4 with(go_at_call 43;refine(ad.out _).mono ?_;rintro K fk ⟨rfl,g⟩;replace e:=Lh (e.out.Ab g id);replace n:=Lh (n.out.to g);have dm:=(g.cell (p:=zA T (ab+fq)) br id).trans bu;have dl:=(g.cell (p:=zA T ab) br id).trans bt;replace bn:=Lh (Aj bn.out g fun _ _ l=>l);clear g)
 clear x r i o y z B bu bt;obtain⟨x,r,i,o,y,z,B⟩:=Bh e.out;have cr:Hid (Cc f=(b.length:Int)):=Lh (by rw[cs.out,bm.out]);have cp:=Lh dy;generalize b.length=m at *;generalize ch:L/8192=fo at *;have db:=Lh ch;clear ch;clear dm dl cx cy db cr cp;clear ad da bm cz;obtain⟨h,aw⟩:∃ d,d=AU speaker:=⟨_,rfl⟩
 rw[<- aw] at bj af ae ec ah;have et:=Lh aw;clear aw;go_upto_region 17 with(go_at_call 41;refine(bj.out _).mono ?_;rintro K fr ⟨fi,rfl,X,g⟩;obtain⟨em,fd,rfl⟩:=BD X;replace e:=Lh (e.out.Ab g id);replace n:=Lh (n.out.to g);clear g)
 clear x r i o y z B;obtain⟨x,r,i,o,y,z,B⟩:=Bh e.out;have ct:=Lh X;have dv:=(Mc X).1;clear X;by_cases dx:2<=h.length
 ·have aj:decide ((h.length:Int)<2)=false:=by rw[Ag];omega
  have cd:=Ay.Ea (V:=JC) (fun _=>rfl) ct.out;obtain⟨be,eb,ce⟩:=UH (P:=Tryz.prog) (t:=78) Tryz.underlying78 bw ci cd rfl dv 1 1 (by omega) (by omega);have al:(fr.alloc (.cells #[zU 1] 25)).ownsRow fr.heap.size 25 1 (zS fr.heap.size 0 1 1) 1 [zU 1]:=iY fr fr.heap.size 25 #[zU 1] (AY _) (by unfold maxLen;decide);have cf:Ay JC (fr.alloc (.cells #[zU 1] 25)) fr.heap.size 1 be (h.drop 1):=ce.below fun fq hq=>((T0 fr).alloc _).block fq hq id
  have ag:Hid ((h.drop 1).length=h.length-1):=Lh (by rw[Cb]);have ed:fr.heap.size<=(fr.alloc (.cells #[zU 1] 25)).heap.size:=by simp
  clear cd ce;go_upto_region 20 with(at_builtin;go_must (refine ER (V:=JC) rfl (.tmp 134) (.tmp 136) 78 rfl fr.heap.size 25 ei _ 1 2 Tryz.underlying78 bw eg ci eh rfl (by omega) (fun _=>rfl) gK _ _ _ rfl al _ be _ _ (h.drop 1) rfl ag.out cf (by unfold maxLen;omega) (by omega) ed ?_);intro fj u R bv;obtain⟨bf,de,rfl⟩:=BD R)
  have am:Au fr u:=((T0 fr).alloc _).grown bv fun k l g=>Bv (BQ al l) (by omega)
  have S:u.ownsRow fr.heap.size 25 1 (.slice bf ((1:Int)::h.drop 1).length de) ((1:Int)::h.drop 1).length (((1:Int)::h.drop 1).map JC):=by
   rw[BF,ag.out,Dm,Nat.add_comm];rw[I8 (V:=JC) fun _=>rfl] at R;exact R
  have cb:((1:Int)::h.drop 1).length=1+(h.length-1):=by rw[BF,ag.out,Nat.add_comm]
  rw[<- cb];have ca:((1:Int)::h.drop 1).length<=1000:=by omega
  clear al cf eb bv R cb;obtain⟨U,ap⟩:∃ d,d=(1:Int)::h.drop 1:=⟨_,rfl⟩
  rw[<- ap] at S ca af ae ah ⊢;have eo:=Lh ap;replace e:=Lh (e.out.Ab am id);replace n:=Lh (n.out.to am);clear x r i o y z B am;obtain⟨x,r,i,o,y,z,B⟩:=Bh e.out;have E:=Lh e.out.lt;have er:=Lh S;have cv:Hid (Ay Value.string u u.heap.size 1 (some (zA fs D)) (f::t)):=Lh (cw.out.AB n.out);have cu:Hid (∀ fp,Au u fp->Ay JC fp fp.heap.size 1 bf U):=Lh fun fp l=>(Ay.Ea (V:=JC) (fun _=>rfl) S).AB l
  clear S x r y z B ap;go_cut [2] fun h fp=>Jv (LP ⟨7,signer,speaker,f::t,frm,F,serial⟩) u (.returned h) fp
  case first =>
   go_region_held3 (fun fp=>Cl fp q 2 (.string speaker)/\Cl fp q 3 (zS fs D (t.length+1) k))
    (first
     |exact⟨i,o⟩
     |exact⟨(W.cell (p:=zA q 2) E.out id).trans i,(W.cell (p:=zA q 3) E.out id).trans o⟩
     |exact⟨((M.alloc _).cell (p:=zA q 2) E.out id).trans i,((M.alloc _).cell (p:=zA q 3) E.out id).trans o⟩
     |exact⟨(M.cell (p:=zA q 2) E.out id).trans i,(M.cell (p:=zA q 3) E.out id).trans o⟩
     |exact⟨(((T0 u).drew).cell (p:=zA q 2) E.out id).trans i,(((T0 u).drew).cell (p:=zA q 3) E.out id).trans o⟩)
    (first
     |(go_at_call 7;refine(cn.out _ _ U _ ca (cu.out _ (by first|exact Aa _ _|exact(Aa _ _).drew)) af.out).mono ?_;rintro K ck ⟨rfl,au⟩;have M:Au u ck:=(by first|exact au|exact((Aa _ _).drew).to au);clear au)
     |(go_at_call 45;refine(co.out _ _ [speaker,C8 U] _ (by simp) ah.out (Gf (fun _=>rfl) (AX.new ck _ _) [speaker,C8 U] rfl)).mono ?_;rintro K el ⟨J,en,fe,rfl,dq,ea,dr,bz⟩;have W:Au u el:=(M.alloc _).to bz;clear bz)
     |(go_at_call 44;refine(cl.out _ _ _ _ _ _ (f::t) J _ (cv.out.AB W) (Ay.Ea (V:=Value.string) (fun _=>rfl) dq) (by rw[BF];omega) (by simp at dr;omega)).mono ?_;rintro K fl ⟨rfl,ej,rfl⟩))
   go_wp2;go_meet;exact⟨_,rfl,fun l=>ae.out J dx ea (of_decide_eq_true l),W.drewN ej⟩
  case rest =>
   obtain⟨dc,dt,bx,dn⟩:=hcut;cases dt;have cq:=Lh bx;clear bx;go_wp2;go_ret;exact⟨dc,rfl,cq.out,n.out.to dn⟩
 ·have aj:decide ((h.length:Int)<2)=true:=by rw[Bb];omega
  go_wp2;go_ret;exact⟨false,rfl,(fun l=>by cases l),n.out⟩
end

def WM (c:Ca) (w:Bc) (e:Ending) (w':Bc):Prop:=∃ a:Int,e= .returned (zI a)/\(a=0->Cn c)/\Au w w'
theorem ET {s:BB} (a:CX s=true):s.size<=16:=by
 obtain⟨c,_,b,_⟩:=E9 a;unfold Cc at b;omega
section
variable {w:Bc}
theorem Yx (c:Ca) (A:Option Addr) (k:Nat) (w:Bc) (t:1<=c.kind) (u:c.kind<=7) (o:CX c.Ad=true) (p:D9 c.Bl=true) (g:Ay Value.string w w.heap.size 1 A c.Bl) :
  Calls Tryz.prog 21 #[.agg (Cu c A k)] w (Jv (Pj c) w):=by
 obtain⟨i,signer,speaker,fors,frm,d,serial⟩:=c;simp only at t u o p g;obtain⟨E,F,r⟩:=Cm p;rcases fors with _|⟨a,b⟩
 ·simp at E
 ·have J:=ET o;have f:=r a (by simp);have I:=ET f;have D:∀ q∈b,q.size<=100:=fun q C=>by have:=ET (r q (by simp[C]));omega
  rw[BF] at F;have j:∀ e:Int,1<=e->e<=5->(Hz ⟨e,signer,speaker,a::b,frm,d,serial⟩ a/\b=[])->Pj ⟨e,signer,speaker,a::b,frm,d,serial⟩:=fun e s n ⟨l,ht⟩=>.inr (.inr ⟨s,n,a,by rw[ht],l⟩)
  have h:∀ (e:Int) (m:Prop),(m->Pj ⟨e,signer,speaker,a::b,frm,d,serial⟩)->Calls Tryz.prog 21 #[.agg #[zI e,zU signer,.string speaker,.slice A (b.length+1) k,zI frm,zI d,zI serial]] w (Jv m w)->Calls Tryz.prog 21 #[.agg (Cu ⟨e,signer,speaker,a::b,frm,d,serial⟩ A k)] w (Jv (Pj ⟨e,signer,speaker,a::b,frm,d,serial⟩) w) :=
   fun e m x l=>Calls.mono l fun H K ⟨n,z,y,v⟩=>⟨n,z,fun G=>x (y G),v⟩
  have B:i=1∨i=2∨i=3∨i=4∨i=5∨i=6∨i=7:=by omega
  rcases B with rfl|rfl|rfl|rfl|rfl|rfl|rfl
  ·exact h 1 _ (j 1 (by omega) (by omega)) (jJ signer frm d serial speaker a b A k w (by omega) (by omega) f g)
  ·exact h 2 _ (j 2 (by omega) (by omega)) (jK signer frm d serial speaker a b A k w (by omega) (by omega) f g)
  ·exact h 3 _ (j 3 (by omega) (by omega)) (jL signer frm d serial speaker a b A k w (by omega) (by omega) f g)
  ·exact h 4 _ (j 4 (by omega) (by omega)) (jM signer frm d serial speaker a b A k w (by omega) (by omega) f g)
  ·exact h 5 _ (j 5 (by omega) (by omega)) (jN signer frm d serial speaker a b A k w (by omega) (by omega) f g)
  ·exact h 6 _ (fun _=>.inl rfl) (jO signer frm d serial speaker a b A k w (by omega) (by omega) f g)
  ·exact h 7 _ (fun l=>.inr (.inl ⟨rfl,l⟩)) (jP signer frm d serial speaker a b A k w (by omega) (by omega) f (by omega) D o p g)
theorem Wm (c:Ca) (A:Option Addr) (k:Nat) (w:Bc) (cn:c.Ad.size<=100) (cm:c.Bl.length<=100) (av:∀ s∈c.Bl,s.size<=100) (ad:Ey c.Aq) (ac:Ay Value.string w w.heap.size 1 A c.Bl) :
  Calls Tryz.prog 6 #[.agg (Cu c A k)] w (WM c w):=by
 have bb:Hid (1<=c.kind->c.kind<=7->CX c.Ad=true->D9 c.Bl=true->∀ q,Au w q->Calls Tryz.prog 21 #[.agg (Cu c A k)] q (Jv (Pj c) q)):=Lh fun R M cd D q bx=>Yx c A k q R M cd D (ac.AB bx)
 have E:=Lh fun a q (ha:Ey a)=>FL a q ha
 have u:=Lh fun q=>Qp c.Ad q (by omega)
 have z:=Lh fun q (C:Ay Value.string q q.heap.size 1 A c.Bl)=>dI A k c.Bl q (by omega) (fun s D=>by have:=av s D;omega) C
 have v:=Lh fun q=>Qq c.BX q
 have x:=Lh fun q=>Qq c.till q
 have y:=Lh fun q=>Qq c.AO q
 have bl:Hid (1<=c.kind->c.kind<=7->c.Aq/8192=1->CX c.Ad=true->D9 c.Bl=true->GA c.BX=true->GA c.till=true->GA c.AO=true->c.BX<=c.till->(∀ s∈c.Bl,c.Ad.size<=s.size)->Pj c->Cn c):=Lh fun R bu bv ap aq S M O bw bs bt=>by
  unfold GA at S M O;rw[Bb] at S M O;exact⟨R,bu,ad,bv,ap,aq,ET ap,fun s D=>ET ((Cm aq).2.2 s D),S.1,bw,M.2,O.1,O.2,fun s D=>by have:=bs s D;unfold Cc;omega,bt⟩
 have F:=Lh ac;have G:=Lh ad;have ah:Hid (Cu c A k=#[zI c.kind,zU c.Aq,.string c.Ad,.slice A c.Bl.length k,zI c.BX,zI c.till,zI c.AO]):=Lh rfl;generalize bz:Cu c A k=X at *;have ca:=ah.out;subst ca;clear bz ah ac ad av;obtain⟨t,signer,speaker,fors,frm,I,serial⟩:=c;simp only at *;have d:Hid (AX (w.alloc (.cells #[zI t,zU signer,.string speaker,.slice A fors.length k,zI frm,zI I,zI serial] 31)) w.heap.size 31 #[zI t,zU signer,.string speaker,.slice A fors.length k,zI frm,zI I,zI serial]):=Lh (AX.new w _ _);have b:Hid (Au w (w.alloc (.cells #[zI t,zU signer,.string speaker,.slice A fors.length k,zI frm,zI I,zI serial] 31))):=Lh ((Aa _ w).alloc _);go_in;go_upto_region 1 with(fail)
 generalize w.alloc (.cells #[zI t,zU signer,.string speaker,.slice A fors.length k,zI frm,zI I,zI serial] 31)=cp at d b ⊢;obtain⟨g,aw⟩:∃ g,g=w.heap.size:=⟨_,rfl⟩
 rw[<- aw] at d ⊢;clear aw;obtain⟨f,cs,l,m,h,i,j⟩:=Bh d.out;by_cases ay:1<=t
 ·by_cases az:t<=7
  ·have L:decide (t<1)=false:=dF;have ak:decide (t > 7)=false:=dF;have al:decide (7<t)=false:=dF;go_upto_region 3 with(fail)
   clear L ak al;by_cases N:signer/8192=1
   ·have bo:(signer/8192!=1)=false:=by rw[bne_eq_false_iff_eq];exact N
    have bn:=Lh N;clear N;obtain⟨bq,T⟩:∃ B,B=CX speaker:=⟨_,rfl⟩
    rw[<- T] at u;have af:=Lh T;clear T;rcases bq with _|_
    ·go_wp2_with (first
       |(go_at_call 17;(with_reducible refine(E.out _ _ G.out).mono ?_);rintro e n ⟨rfl,rfl⟩)
       |(go_at_call 18;(with_reducible refine(u.out _).mono ?_);rintro e ct ⟨rfl,cr⟩;replace d:=Lh (d.out.Ab cr id);replace b:=Lh (b.out.to cr);clear cr f cs l m h i j;obtain⟨f,cs,l,m,h,i,j⟩:=Bh d.out)
       |(go_at_call 19;(with_reducible refine(z.out _ (F.out.AB b.out)).mono ?_);rintro e ct ⟨rfl,cr⟩;replace d:=Lh (d.out.Ab cr id);replace b:=Lh (b.out.to cr);clear cr f cs l m h i j;obtain⟨f,cs,l,m,h,i,j⟩:=Bh d.out)
       |(go_at_call 20;(with_reducible refine(v.out _).mono ?_);rintro e n ⟨rfl,rfl⟩)
       |(go_at_call 20;(with_reducible refine(x.out _).mono ?_);rintro e n ⟨rfl,rfl⟩)
       |(go_at_call 20;(with_reducible refine(y.out _).mono ?_);rintro e n ⟨rfl,rfl⟩))
     go_ret;exact⟨2,rfl,(fun C=>by omega),b.out⟩
    ·obtain⟨br,U⟩:∃ B,B=D9 fors:=⟨_,rfl⟩
     rw[<- U] at z;have ag:=Lh U;clear U;rcases br with _|_
     ·go_wp2_with (first
        |(go_at_call 17;(with_reducible refine(E.out _ _ G.out).mono ?_);rintro e n ⟨rfl,rfl⟩)
        |(go_at_call 18;(with_reducible refine(u.out _).mono ?_);rintro e ct ⟨rfl,cr⟩;replace d:=Lh (d.out.Ab cr id);replace b:=Lh (b.out.to cr);clear cr f cs l m h i j;obtain⟨f,cs,l,m,h,i,j⟩:=Bh d.out)
        |(go_at_call 19;(with_reducible refine(z.out _ (F.out.AB b.out)).mono ?_);rintro e ct ⟨rfl,cr⟩;replace d:=Lh (d.out.Ab cr id);replace b:=Lh (b.out.to cr);clear cr f cs l m h i j;obtain⟨f,cs,l,m,h,i,j⟩:=Bh d.out)
        |(go_at_call 20;(with_reducible refine(v.out _).mono ?_);rintro e n ⟨rfl,rfl⟩)
        |(go_at_call 20;(with_reducible refine(x.out _).mono ?_);rintro e n ⟨rfl,rfl⟩)
        |(go_at_call 20;(with_reducible refine(y.out _).mono ?_);rintro e n ⟨rfl,rfl⟩))
      go_ret;exact⟨2,rfl,(fun C=>by omega),b.out⟩
     ·obtain⟨cg,Z⟩:∃ B,B=GA frm:=⟨_,rfl⟩
      obtain⟨ch,aa⟩:∃ B,B=GA I:=⟨_,rfl⟩
      obtain⟨ci,ab⟩:∃ B,B=GA serial:=⟨_,rfl⟩
      rw[<- Z] at v;rw[<- aa] at x;rw[<- ab] at y;have bi:=Lh Z;have bj:=Lh aa;have bk:=Lh ab;clear Z aa ab;rcases cg with _|_
      ·go_wp2_with (first
         |(go_at_call 17;(with_reducible refine(E.out _ _ G.out).mono ?_);rintro e n ⟨rfl,rfl⟩)
         |(go_at_call 18;(with_reducible refine(u.out _).mono ?_);rintro e ct ⟨rfl,cr⟩;replace d:=Lh (d.out.Ab cr id);replace b:=Lh (b.out.to cr);clear cr f cs l m h i j;obtain⟨f,cs,l,m,h,i,j⟩:=Bh d.out)
         |(go_at_call 19;(with_reducible refine(z.out _ (F.out.AB b.out)).mono ?_);rintro e ct ⟨rfl,cr⟩;replace d:=Lh (d.out.Ab cr id);replace b:=Lh (b.out.to cr);clear cr f cs l m h i j;obtain⟨f,cs,l,m,h,i,j⟩:=Bh d.out)
         |(go_at_call 20;(with_reducible refine(v.out _).mono ?_);rintro e n ⟨rfl,rfl⟩)
         |(go_at_call 20;(with_reducible refine(x.out _).mono ?_);rintro e n ⟨rfl,rfl⟩)
         |(go_at_call 20;(with_reducible refine(y.out _).mono ?_);rintro e n ⟨rfl,rfl⟩))
       go_ret;exact⟨2,rfl,(fun C=>by omega),b.out⟩
      ·rcases ch with _|_
       ·go_wp2_with (first
          |(go_at_call 17;(with_reducible refine(E.out _ _ G.out).mono ?_);rintro e n ⟨rfl,rfl⟩)
          |(go_at_call 18;(with_reducible refine(u.out _).mono ?_);rintro e ct ⟨rfl,cr⟩;replace d:=Lh (d.out.Ab cr id);replace b:=Lh (b.out.to cr);clear cr f cs l m h i j;obtain⟨f,cs,l,m,h,i,j⟩:=Bh d.out)
          |(go_at_call 19;(with_reducible refine(z.out _ (F.out.AB b.out)).mono ?_);rintro e ct ⟨rfl,cr⟩;replace d:=Lh (d.out.Ab cr id);replace b:=Lh (b.out.to cr);clear cr f cs l m h i j;obtain⟨f,cs,l,m,h,i,j⟩:=Bh d.out)
          |(go_at_call 20;(with_reducible refine(v.out _).mono ?_);rintro e n ⟨rfl,rfl⟩)
          |(go_at_call 20;(with_reducible refine(x.out _).mono ?_);rintro e n ⟨rfl,rfl⟩)
          |(go_at_call 20;(with_reducible refine(y.out _).mono ?_);rintro e n ⟨rfl,rfl⟩))
        go_ret;exact⟨2,rfl,(fun C=>by omega),b.out⟩
       ·rcases ci with _|_
        ·go_wp2_with (first
           |(go_at_call 17;(with_reducible refine(E.out _ _ G.out).mono ?_);rintro e n ⟨rfl,rfl⟩)
           |(go_at_call 18;(with_reducible refine(u.out _).mono ?_);rintro e ct ⟨rfl,cr⟩;replace d:=Lh (d.out.Ab cr id);replace b:=Lh (b.out.to cr);clear cr f cs l m h i j;obtain⟨f,cs,l,m,h,i,j⟩:=Bh d.out)
           |(go_at_call 19;(with_reducible refine(z.out _ (F.out.AB b.out)).mono ?_);rintro e ct ⟨rfl,cr⟩;replace d:=Lh (d.out.Ab cr id);replace b:=Lh (b.out.to cr);clear cr f cs l m h i j;obtain⟨f,cs,l,m,h,i,j⟩:=Bh d.out)
           |(go_at_call 20;(with_reducible refine(v.out _).mono ?_);rintro e n ⟨rfl,rfl⟩)
           |(go_at_call 20;(with_reducible refine(x.out _).mono ?_);rintro e n ⟨rfl,rfl⟩)
           |(go_at_call 20;(with_reducible refine(y.out _).mono ?_);rintro e n ⟨rfl,rfl⟩))
         go_ret;exact⟨2,rfl,(fun C=>by omega),b.out⟩
        ·by_cases Q:frm<=I
         ·have am:decide (frm > I)=false:=dF;have an:decide (I<frm)=false:=dF;go_upto_region 7 with(first
  |(go_at_call 17;(with_reducible refine(E.out _ _ G.out).mono ?_);rintro e n ⟨rfl,rfl⟩)
  |(go_at_call 18;(with_reducible refine(u.out _).mono ?_);rintro e ct ⟨rfl,cr⟩;replace d:=Lh (d.out.Ab cr id);replace b:=Lh (b.out.to cr);clear cr f cs l m h i j;obtain⟨f,cs,l,m,h,i,j⟩:=Bh d.out)
  |(go_at_call 19;(with_reducible refine(z.out _ (F.out.AB b.out)).mono ?_);rintro e ct ⟨rfl,cr⟩;replace d:=Lh (d.out.Ab cr id);replace b:=Lh (b.out.to cr);clear cr f cs l m h i j;obtain⟨f,cs,l,m,h,i,j⟩:=Bh d.out)
  |(go_at_call 20;(with_reducible refine(v.out _).mono ?_);rintro e n ⟨rfl,rfl⟩)
  |(go_at_call 20;(with_reducible refine(x.out _).mono ?_);rintro e n ⟨rfl,rfl⟩)
  |(go_at_call 20;(with_reducible refine(y.out _).mono ?_);rintro e n ⟨rfl,rfl⟩))
          clear am an E u z v x y f cs h i j;have bg:=Lh Q;clear Q;obtain⟨P,ce⟩:∃ P,P=ct:=⟨_,rfl⟩
          subst ce;go_wp2;go_loopg [3] fors.length fun gk H wr=>∃ (r K:Nat),r+gk=fors.length/\H=zI r/\wr=P.drewN K/\∀ H s,H<r->fors[H]?= some s->speaker.size<=s.size
          case atStart=>exact⟨0,0,Bz _,rfl,rfl,fun H s cu=>by omega⟩
          case round =>
           obtain⟨r,K,cl,rfl,rfl,ar⟩:=hrel;have ae:=Lh ar;clear ar;by_cases ax:r<fors.length
           ·obtain⟨B,o,rfl,cb,W⟩:=Ay.BV (V:=Value.string) (fun _=>rfl) F.out ax;obtain⟨J,hx⟩:∃ J,J=fors[r]:=⟨_,rfl⟩
            have bm:Hid (fors[r]?= some J):=Lh (by rw[hx];exact Ah ax);rw[<- hx] at W;have ck:Cl P B (o+r) (.string J):=(b.out.cell (p:=zA B (o+r)) cb id).trans W;have co:(0:Int)<=(r:Int):=by omega
            have cf:(r:Int)<(fors.length:Int):=by omega
            clear hx W;by_cases Y:speaker.size<=J.size
            ·have L:decide (J.size<speaker.size)=false:=dF;have bh:=Lh Y;clear Y;go_wp2_with fail;go_quiet (fail);go_wp2;go_roundg (gk-1)
             case measure=>omega
             case rel =>
              refine⟨r+1,_,by omega,by go_num,rfl,fun H s cu D=>?_⟩;by_cases cc:H=r
              ·subst cc;have:=bm.out;rw[D] at this;cases this;exact bh.out
              ·exact ae.out H s (by omega) D
            ·have L:decide (J.size<speaker.size)=true:=by rw[Bb];omega
             clear Y;go_wp2_with fail;go_quiet (fail);go_wp2;go_ret;exact⟨4,rfl,(fun C=>by omega),(b.out.drewN K).drewN nq⟩
           ·have cf:¬(r:Int)<(fors.length:Int):=by omega
            have bd:Hid (∀ s∈fors,speaker.size<=s.size):=Lh fun s D=>by
             obtain⟨H,cu,rfl⟩:=CQ D;exact ae.out H _ (by omega) (Ah cu)
            have be:=Lh (d.out.drewN K);have bc:=Lh (bb.out ay az af.out.symm ag.out.symm _ (b.out.drewN K));go_wp2_with (first
             |(refine AA rfl (.tmp 1) rfl rfl be.out Tryz.underlying31 rfl Cg ?_)
             |(go_at_call 21;refine bc.out.mono ?_;rintro e cq ⟨bp,rfl,au,cr⟩;have bf:=Lh au;have ai:=Lh ((b.out.drewN K).to cr);clear au cr;rcases bp with _|_))
            ·go_wp2;go_ret;exact⟨13,rfl,(fun C=>by omega),ai.out⟩
            ·go_wp2;go_ret;exact⟨0,rfl,fun _=>bl.out ay az bn.out af.out.symm ag.out.symm bi.out.symm bj.out.symm bk.out.symm bg.out bd.out (bf.out (by trivial)),ai.out⟩
         ·have am:decide (frm > I)=true:=by rw[Bb];omega
          have an:decide (I<frm)=true:=by rw[Bb];omega
          clear Q;go_wp2_with (first
            |(go_at_call 17;(with_reducible refine(E.out _ _ G.out).mono ?_);rintro e n ⟨rfl,rfl⟩)
            |(go_at_call 18;(with_reducible refine(u.out _).mono ?_);rintro e ct ⟨rfl,cr⟩;replace d:=Lh (d.out.Ab cr id);replace b:=Lh (b.out.to cr);clear cr f cs l m h i j;obtain⟨f,cs,l,m,h,i,j⟩:=Bh d.out)
            |(go_at_call 19;(with_reducible refine(z.out _ (F.out.AB b.out)).mono ?_);rintro e ct ⟨rfl,cr⟩;replace d:=Lh (d.out.Ab cr id);replace b:=Lh (b.out.to cr);clear cr f cs l m h i j;obtain⟨f,cs,l,m,h,i,j⟩:=Bh d.out)
            |(go_at_call 20;(with_reducible refine(v.out _).mono ?_);rintro e n ⟨rfl,rfl⟩)
            |(go_at_call 20;(with_reducible refine(x.out _).mono ?_);rintro e n ⟨rfl,rfl⟩)
            |(go_at_call 20;(with_reducible refine(y.out _).mono ?_);rintro e n ⟨rfl,rfl⟩))
          go_ret;exact⟨5,rfl,(fun C=>by omega),b.out⟩
   ·have bo:(signer/8192!=1)=true:=by rw[bne_iff_ne];exact N
    clear N;go_wp2_with (first
      |(go_at_call 17;(with_reducible refine(E.out _ _ G.out).mono ?_);rintro e n ⟨rfl,rfl⟩)
      |(go_at_call 18;(with_reducible refine(u.out _).mono ?_);rintro e ct ⟨rfl,cr⟩;replace d:=Lh (d.out.Ab cr id);replace b:=Lh (b.out.to cr);clear cr f cs l m h i j;obtain⟨f,cs,l,m,h,i,j⟩:=Bh d.out)
      |(go_at_call 19;(with_reducible refine(z.out _ (F.out.AB b.out)).mono ?_);rintro e ct ⟨rfl,cr⟩;replace d:=Lh (d.out.Ab cr id);replace b:=Lh (b.out.to cr);clear cr f cs l m h i j;obtain⟨f,cs,l,m,h,i,j⟩:=Bh d.out)
      |(go_at_call 20;(with_reducible refine(v.out _).mono ?_);rintro e n ⟨rfl,rfl⟩)
      |(go_at_call 20;(with_reducible refine(x.out _).mono ?_);rintro e n ⟨rfl,rfl⟩)
      |(go_at_call 20;(with_reducible refine(y.out _).mono ?_);rintro e n ⟨rfl,rfl⟩))
    go_ret;exact⟨2,rfl,(fun C=>by omega),b.out⟩
  ·have L:decide (t<1)=false:=dF;have ak:decide (t > 7)=true:=by rw[Bb];omega
   have al:decide (7<t)=true:=by rw[Bb];omega
   go_wp2_with (first
     |(go_at_call 17;(with_reducible refine(E.out _ _ G.out).mono ?_);rintro e n ⟨rfl,rfl⟩)
     |(go_at_call 18;(with_reducible refine(u.out _).mono ?_);rintro e ct ⟨rfl,cr⟩;replace d:=Lh (d.out.Ab cr id);replace b:=Lh (b.out.to cr);clear cr f cs l m h i j;obtain⟨f,cs,l,m,h,i,j⟩:=Bh d.out)
     |(go_at_call 19;(with_reducible refine(z.out _ (F.out.AB b.out)).mono ?_);rintro e ct ⟨rfl,cr⟩;replace d:=Lh (d.out.Ab cr id);replace b:=Lh (b.out.to cr);clear cr f cs l m h i j;obtain⟨f,cs,l,m,h,i,j⟩:=Bh d.out)
     |(go_at_call 20;(with_reducible refine(v.out _).mono ?_);rintro e n ⟨rfl,rfl⟩)
     |(go_at_call 20;(with_reducible refine(x.out _).mono ?_);rintro e n ⟨rfl,rfl⟩)
     |(go_at_call 20;(with_reducible refine(y.out _).mono ?_);rintro e n ⟨rfl,rfl⟩))
   go_ret;exact⟨1,rfl,(fun C=>by omega),b.out⟩
 ·have L:decide (t<1)=true:=by rw[Bb];omega
  go_wp2_with (first
    |(go_at_call 17;(with_reducible refine(E.out _ _ G.out).mono ?_);rintro e n ⟨rfl,rfl⟩)
    |(go_at_call 18;(with_reducible refine(u.out _).mono ?_);rintro e ct ⟨rfl,cr⟩;replace d:=Lh (d.out.Ab cr id);replace b:=Lh (b.out.to cr);clear cr f cs l m h i j;obtain⟨f,cs,l,m,h,i,j⟩:=Bh d.out)
    |(go_at_call 19;(with_reducible refine(z.out _ (F.out.AB b.out)).mono ?_);rintro e ct ⟨rfl,cr⟩;replace d:=Lh (d.out.Ab cr id);replace b:=Lh (b.out.to cr);clear cr f cs l m h i j;obtain⟨f,cs,l,m,h,i,j⟩:=Bh d.out)
    |(go_at_call 20;(with_reducible refine(v.out _).mono ?_);rintro e n ⟨rfl,rfl⟩)
    |(go_at_call 20;(with_reducible refine(x.out _).mono ?_);rintro e n ⟨rfl,rfl⟩)
    |(go_at_call 20;(with_reducible refine(y.out _).mono ?_);rintro e n ⟨rfl,rfl⟩))
  go_ret;exact⟨1,rfl,(fun C=>by omega),b.out⟩
end

structure Ef (w:Bc) (d nb sb pb:Nat) (now:List UInt8):Prop where
 BR:AX w d 132 #[zS nb 0 65 65,zS sb 0 65 65,zS pb 0 65 65,zO,.bool false,.bool false]
 NV:∃ cs,AX w nb 152 cs/\cs.toList=now.map bV
 len:now.length=2080
 Mm:∃ cs,AX w sb 152 cs/\cs.size=2080
 LC:∃ cs,AX w pb 4 cs/\cs.size=65
 ne:nb≠sb
section
variable {w w' W:Bc} {d nb sb pb:Nat} {now:List UInt8}
def Ha (nb sb pb:Nat) (k:Nat):Prop:=k=nb∨k=sb∨k=pb
theorem Ef.cells (a:Ef w d nb sb pb now):Cl w d 0 (zS nb 0 65 65)/\Cl w d 1 (zS sb 0 65 65)/\Cl w d 2 (zS pb 0 65 65)/\Cl w d 3 zO/\Cl w d 4 (.bool false)/\Cl w d 5 (.bool false) :=
 ⟨a.BR.cell 0,a.BR.cell 1,a.BR.cell 2,a.BR.cell 3,a.BR.cell 4,a.BR.cell 5⟩
theorem Ef.Ab {S:Nat->Prop} (a:Ef w d nb sb pb now) (b:Am S w w') (m:¬S d) (n:¬S nb) (o:¬S sb) (p:¬S pb):Ef w' d nb sb pb now:=by
 obtain⟨g,c,j⟩:=a.NV;obtain⟨h,e,k⟩:=a.Mm;obtain⟨i,f,l⟩:=a.LC;exact⟨a.BR.Ab b m,⟨g,c.Ab b n,j⟩,a.len,⟨h,e.Ab b o,k⟩,⟨i,f.Ab b p,l⟩,a.ne⟩
theorem Ef.AB (a:Ef w d nb sb pb now) (b:Au w w'):Ef w' d nb sb pb now:=a.Ab b id id id id
theorem Ef.lt (a:Ef w d nb sb pb now):d<w.heap.size/\nb<w.heap.size/\sb<w.heap.size/\pb<w.heap.size:=by
 obtain⟨f,b,i⟩:=a.NV;obtain⟨g,c,j⟩:=a.Mm;obtain⟨h,e,k⟩:=a.LC;exact⟨a.BR.lt,b.lt,c.lt,e.lt⟩
theorem RY (a:Ef w d nb sb pb now) (i:Int) (b:0<=i) (c:i<65) :
  Calls Tryz.prog 74 #[zP d,zI i] w (Rt (.bool true) fun w'=>w=w'):=by
 obtain⟨e,_,_,_,_,_⟩:=a.cells;have f:decide (0<=i)=true:=by simpa using b
 have g:decide (i<65)=true:=by simpa using c
 clear a;go_in;go_wp2;go_ret;exact⟨rfl,rfl⟩
theorem ZK (a:Ef w d nb sb pb now) :
  Calls Tryz.prog 79 #[zP d] w (Rt (.bool false) fun w'=>w=w'):=by
 obtain⟨_,_,_,_,_,b⟩:=a.cells;clear a;go_in;go_wp2;go_ret;exact⟨rfl,rfl⟩
theorem Tp (a:Ef w d nb sb pb now) :
  Calls Tryz.prog 123 #[zP d] w (Rt zO fun w'=>w=w'):=by
 obtain⟨_,_,_,b,c,e⟩:=a.cells;clear a;go_in;go_wp2;go_ret;exact⟨rfl,rfl⟩
theorem MG (g d n:Nat) (a:List UInt8) (cs:Array Value) {t ty:TypeId} (h:AX w g t cs) (o:Tryz.prog.underlying ty=some .string) (m:a.length=n) (i:∀ j b,a[j]?= some b->cs[d+j]?= some (bV b)) (k:Nat) :
  (convert 84 ty (zS g d n k)).run Tryz.prog w= .ok (.string (Dy a)) w:=by
 subst m;rw[run_convert_bytes_string w _ _ 5 _ _ _ Tryz.underlying84 Tryz.underlying5 o];have f:=run_loadCells_list (P:=Tryz.prog) w (zA g d) ((a.map fun b=>(b.toNat:Int)).map (Value.int .u8)) (by
  intro j q c;rw[Gs,Ch] at c;rcases e:a[j]? with _|b
  ·rw[e] at c;cases c
  ·rw[e] at c;have p:bV b=q:=by simpa [bV] using c
   have:=i j b e;rw[<- p,<- this];show w.cell? (Addr.add (zA g d) j)=_;rw[Addr.add_lit];exact h.cell (d+j))
 rw[Be,Be] at f;rw[run_bytesToString w _ _ _ (a.map fun b=>(b.toNat:Int)) f,Ob];have l:(ByteArray.mk (ByteArray.empty.data++((a.map fun b=>(b.toNat:Int)).map fun n=>UInt8.ofNat n.toNat).toArray))=Dy a:=by
  apply Kt;have:(a.map fun b=>(b.toNat:Int)).map (fun n=>UInt8.ofNat n.toNat)=a:=by
   rw[Gs];exact(List.map_congr_left (g:=id) fun b _=>by simp).trans (List.map_id _)
  rw[this];show(ByteArray.empty.data++a.toArray).toList=a;rw[show ByteArray.empty.data=#[] from rfl];simp
 rw[l]
theorem Uz (a:Ef w d nb sb pb now) (i:Nat) (q:i<65) :
  Calls Tryz.prog 75 #[zP d,zI i] w (Rt (.string (Dy ((now.drop (32*i)).take 32))) fun w'=>w=w'):=by
 have j:=Lh (RY a i (by omega) (by omega));obtain⟨o,_,_,_,_,_⟩:=a.cells;obtain⟨c,e,f⟩:=a.NV;have t:=a.len;have r:(0:Int)<=(i:Int):=by omega
 have s:(i:Int)<65:=by omega
 have g:((now.drop (32*i)).take 32).length=32:=by rw[BA,Cb];omega
 have m:=MG (w:=w) (ty:=9) nb (i*32) 32 ((now.drop (32*i)).take 32) c e Tryz.underlying9 g (by
  intro h k b;have l:h<32:=by have:=(AC.1 b).1;omega
  rw[Cf l,List.getElem?_drop] at b;have:c.toList[i*32+h]?= some (bV k):=by rw[f,Ch,Nat.mul_comm i 32,b];rfl
  simpa using this) 32
 generalize Dy ((now.drop (32*i)).take 32)=n at m ⊢;clear a g f e;go_in;go_wp2_with (go_at_call 74;refine j.out.mono ?_;rintro p u ⟨rfl,rfl⟩);go_ret;exact⟨rfl,rfl⟩
def Ij (d:Nat) (num half:Int) (a:BB):Array Value:=#[zP d,zI num,zI half,.string a]
theorem GQ {p:Nat} {num half:Int} {b:BB} (a:AX w p 183 (Ij d num half b)):Cl w p 0 (zP d)/\Cl w p 1 (zI num)/\Cl w p 2 (zI half)/\Cl w p 3 (.string b) :=
 ⟨a.cell 0,a.cell 1,a.cell 2,a.cell 3⟩
theorem LG {p:Nat} {num half:Int} {c:BB} (a:Ef w d nb sb pb now) (b:AX w p 183 (Ij d num half c)) :
  Calls Tryz.prog 77 #[zP p] w (Rt (zI 32) fun w'=>w=w'):=by
 obtain⟨e,_,_,_,_,_⟩:=a.cells;obtain⟨f,_,_,_⟩:=GQ b;clear a b;go_in;go_wp2;go_ret;exact⟨rfl,rfl⟩
theorem U9 {p:Nat} {num half:Int} {e:BB} (a:Ef w d nb sb pb now) (b:AX w p 183 (Ij d num half e)) :
  Calls Tryz.prog 76 #[zP p] w (Rt (zI 1024) fun w'=>w=w'):=by
 have c:=Lh (LG a b);clear a b;go_in;go_wp2_with (go_at_call 77;refine c.out.mono ?_;rintro f g ⟨rfl,rfl⟩);go_ret;exact⟨rfl,rfl⟩
theorem QT {p:Nat} {num half:Int} {e:BB} (a:Ef w d nb sb pb now) (b:AX w p 183 (Ij d num half e)) (i:Int) (g:0<=i) (h:i<=1) :
  Calls Tryz.prog 78 #[zP p,zI i] w (Rt (zI (1+i*32)) fun w'=>w=w'):=by
 have c:=Lh (LG a b);clear a b;go_in;go_wp2_with (go_at_call 77;refine c.out.mono ?_;rintro f j ⟨rfl,rfl⟩);go_ret;exact⟨rfl,rfl⟩
theorem aM {p:Nat} {num half:Int} {b:BB} (a:AX w p 183 (Ij d num half b)) :
  Calls Tryz.prog 85 #[zP p] w (Rt (.string b) fun w'=>w=w'):=by
 obtain⟨_,_,_,c⟩:=GQ a;clear a;go_in;go_wp2;go_ret;exact⟨rfl,rfl⟩
end

section
variable {P:Program} {w w':Bc} {o:Oper} {a:Act} {K:Act->Bc->Prop} {Q:Exit->Act->Bc->Prop} {v u v':Value}
theorem wp_copy_run (s x:Operand) (t b:TypeId) (d:o.op= .call {callee:=.builtin .copy,args:=#[s,x],argTypes:=#[t,b]}) (f:a.eval s=v) (hx:a.eval x=u)
  (e:(Builtin.copy_ #[t,b] o.type #[v,u]).run P w= .ok v' w') (c:K (a.put o.dst v') w'):o.wp P a w K Q:=by
 unfold Oper.wp execOp;simp only[d,resolve,invoke,builtin,Sem.run_bind,Sem.run_pure,Result.andThen_ok,List.map_toArray,Dm,FR,f,hx,e];exact c
end
theorem fG:(Builtin.zeroCells (Value.int .u8 0).cells 32).toList=(List.replicate 32 (0:UInt8)).map bV:=by
 unfold Builtin.zeroCells;rw[Array.toList_map,Array.toList_range];rfl
theorem jW:(Tryz.prog.info? 5).map (·.size)=some 1:=by kernel_rfl
theorem OB:(Tryz.prog.info? 152).map (·.size)=some 32:=by kernel_rfl
theorem RG {l:List UInt8}:∀ v∈l.map bV,v.oneCell'=true:=by
 intro v a;obtain⟨b,_,rfl⟩:=Bp.1 a;rfl
section
variable {w w' W:Bc} {d nb sb pb:Nat} {now:List UInt8}
theorem Ef.row {e:List UInt8} {cs':Array Value} (a:Ef w d nb sb pb now) (m:cs'.toList=e.map bV) (n:e.length=2080):Ef (w.setRow nb cs') d nb sb pb e/\Am (fun k=>k=nb) w (w.setRow nb cs'):=by
 obtain⟨q,c,r⟩:=a.NV;obtain⟨h,g,j⟩:=a.Mm;obtain⟨i,f,l⟩:=a.LC;have b:=EY w nb cs';have o:d≠nb:=AX.GJ a.BR c (by decide);have p:pb≠nb:=AX.GJ f c (by decide);exact⟨⟨a.BR.Ab b o,⟨cs',GU c cs',m⟩,n,⟨h,g.Ab b (BZ a.ne),j⟩,⟨i,f.Ab b p,l⟩,a.ne⟩,b⟩
theorem X8 (b:Ef w d nb sb pb now) (i:Nat) (l:i<65):∃ e,(∀ ty,(Builtin.clear_ #[84] ty #[.slice (some (zA nb (i*32))) 32 32]).run Tryz.prog w= .ok (.tuple #[]) e) /\
  Ef e d nb sb pb (now.take (i*32)++(List.replicate 32 0++now.drop (i*32+32)))/\Am (fun k=>k=nb) w e:=by
 obtain⟨a,h,f⟩:=b.NV;have m:a.size=2080:=by rw[<- Ci,f,Be,b.len]
 have c:=run_storeCells_at Tryz.prog nb (i*32) 152 ((List.replicate 32 (0:UInt8)).map bV) 0 a w h (by rw[Be,Dg];omega) RG;refine⟨w.setRow nb ((a.toList.take (i*32)++(List.replicate 32 (0:UInt8)).map bV++a.toList.drop (i*32+32)).toArray),fun ty=>?_,?_⟩
 ·rw[Be,Dg] at c;have g:=fG;generalize (List.replicate 32 (0:UInt8)).map bV=j at c g ⊢;simp only[F7] at c;simp[Builtin.clear_,run_underlying Tryz.underlying84,g,c]
 ·refine b.row ?_ ?_
  ·rw[Gc,f];simp only[Bw,List.map_take,List.map_drop,BJ]
  ·have:=b.len;simp only[Ap,BA,Cb,Dg];omega
theorem ZN (b:Ef w d nb sb pb now) (i:Nat) (r:i<65) (s:BB) (q:s.size<=32):∃ f,(∀ ty,(Builtin.copy_ #[84,9] ty #[.slice (some (zA nb (i*32))) 32 32,.string s]).run Tryz.prog w= .ok (goInt s.size) f) /\
  Ef f d nb sb pb (now.take (i*32)++(s.data.toList++now.drop (i*32+s.size)))/\Am (fun k=>k=nb) w f:=by
 obtain⟨a,m,g⟩:=b.NV;have t:a.size=2080:=by rw[<- Ci,g,Be,b.len]
 have h:(s.data.toList.map bV).length=s.size:=by rw[Be];rfl
 have c:=run_storeCells_at Tryz.prog nb (i*32) 152 (s.data.toList.map bV) 0 a w m (by rw[h];omega) RG;have n:List.take s.size (s.data.toList.map fun j=>Value.int .u8 (j.toNat:Int))=s.data.toList.map bV:=by
  rw[Bt (by rw[Be];exact AY _)];rfl
 refine⟨w.setRow nb ((a.toList.take (i*32)++s.data.toList.map bV++a.toList.drop (i*32+s.size)).toArray),fun ty=>?_,?_⟩
 ·rw[h] at c;have p:Nat.min s.size 32=s.size:=EL q;obtain⟨u,o⟩:∃ e,Tryz.prog.info? 5=some e:=by
   rcases hq:Tryz.prog.info? 5 with _|e
   ·have:=jW;rw[hq] at this;cases this
   ·exact⟨e,rfl⟩
  simp only[F7] at c;simp[Builtin.copy_,run_underlying Tryz.underlying84,Builtin.lenOf,Builtin.firstCells,sizeOf,typeInfo,o,p,n,c]
 ·refine b.row ?_ ?_
  ·rw[Gc,g];simp only[Bw,List.map_take,List.map_drop,BJ]
  ·have:=b.len;have l:s.data.toList.length=s.size:=rfl;simp only[Ap,BA,Cb,l];omega
theorem V9 (a:Ef w d nb sb pb now):∃ n,(∀ ty,(Builtin.copy_ #[130,130] ty #[zS sb 0 65 65,zS nb 0 65 65]).run Tryz.prog w= .ok (goInt 65) n) /\
  Ef n d nb sb pb now/\Am (fun k=>k=sb) w n:=by
 obtain⟨c,q,i⟩:=a.NV;obtain⟨g,f,p⟩:=a.Mm;obtain⟨s,o,t⟩:=a.LC;have l:c.toList.length=2080:=by rw[i,Be,a.len]
 have j:=run_loadCells_list (P:=Tryz.prog) w (zA nb 0) c.toList (by
  intro e v A;rw[Addr.add_lit,Bz,q.cell];rw[<- A];simp)
 have m:=run_storeCells_at Tryz.prog sb 0 152 c.toList 0 g w f (by rw[l,p];omega) (by rw[i];exact RG);obtain⟨b,r⟩:∃ b:Array Value,b=(g.toList.take (0+0)++c.toList++g.toList.drop (0+0+c.toList.length)).toArray:=⟨_,rfl⟩
 have u:b.size=2080:=by
  rw[r];simp only[EJ,Ap,BA,Cb,l,Ci,p];omega
 rw[<- r] at m;refine⟨w.setRow sb b,fun ty=>?_,?_,EY w sb b⟩
 ·obtain⟨E,x,y⟩:∃ e,Tryz.prog.info? 152=some e/\e.size=32:=by
   rcases hq:Tryz.prog.info? 152 with _|e
   ·have:=OB;rw[hq] at this;cases this
   ·have:=OB;rw[hq] at this;exact⟨e,rfl,by simpa using this⟩
  rw[l] at j;generalize c.toList=D at j m;have z:Nat.min 65 65=65:=rfl;simp[Builtin.copy_,run_underlying Tryz.underlying130,Builtin.lenOf,Builtin.firstCells,sizeOf,typeInfo,x,y,z,j,m]
 ·have h:=EY w sb b;have B:d≠sb:=AX.GJ a.BR f (by decide);have C:pb≠sb:=AX.GJ o f (by decide);exact⟨a.BR.Ab h B,⟨c,q.Ab h a.ne,i⟩,a.len,⟨b,GU f b,u⟩,⟨s,o.Ab h C,t⟩,a.ne⟩
theorem WF:∃ Z:List Value,(Builtin.zeroCells (Value.bool false).cells 65).toList=Z/\Z.length=65/\∀ v∈Z,v.oneCell'=true:=by
 refine⟨List.replicate 65 (.bool false),?_,by simp,fun v a=>by rw[List.eq_of_mem_replicate a];rfl⟩;unfold Builtin.zeroCells;rw[Array.toList_map,Array.toList_range];rfl
theorem VA (b:Ef w d nb sb pb now):∃ h,(∀ ty,(Builtin.clear_ #[49] ty #[zS pb 0 65 65]).run Tryz.prog w= .ok (.tuple #[]) h) /\
  Ef h d nb sb pb now/\Am (fun k=>k=pb) w h:=by
 obtain⟨p,i,r⟩:=b.NV;obtain⟨q,j,s⟩:=b.Mm;obtain⟨f,c,l⟩:=b.LC;obtain⟨e,u,o,v⟩:=WF;have n:=run_storeCells_at Tryz.prog pb 0 4 e 0 f w c (by rw[o,l];omega) v;obtain⟨a,m⟩:∃ a:Array Value,a=(f.toList.take (0+0)++e++f.toList.drop (0+0+e.length)).toArray:=⟨_,rfl⟩
 have t:a.size=65:=by
  rw[m];simp only[EJ,Ap,BA,Cb,o,Ci,l];omega
 rw[<- m] at n;refine⟨w.setRow pb a,fun ty=>?_,?_,EY w pb a⟩
 ·simp[Builtin.clear_,run_underlying Tryz.underlying49,u,n]
 ·have g:=EY w pb a;have x:d≠pb:=AX.GJ b.BR c (by decide);have y:nb≠pb:=AX.GJ i c (by decide);have z:sb≠pb:=AX.GJ j c (by decide);exact⟨b.BR.Ab g x,⟨p,i.Ab g y,r⟩,b.len,⟨q,j.Ab g z,s⟩,⟨a,GU c a,t⟩,b.ne⟩
def SH (now:List UInt8) (i:Nat) (b:List UInt8):List UInt8:=now.take (i*32)++(b++(List.replicate (32-b.length) 0++now.drop (i*32+32)))
theorem mY {b:List UInt8} (i:Nat) (d:i*32+32<=now.length) (c:b.length<=32) :
  (now.take (i*32)++(List.replicate 32 (0:UInt8)++now.drop (i*32+32))).take (i*32)++(b++(now.take (i*32)++(List.replicate 32 0++now.drop (i*32+32))).drop (i*32+b.length))=SH now i b:=by
 have a:(now.take (i*32)).length=i*32:=by rw[BA];omega
 unfold SH;rw[Ff a]
 congr 2
 rw[<- FO,List.drop_left' a,List.drop_append_of_le_length (by rw[Dg];exact c),List.drop_replicate]
end

section
variable {w w' W:Bc} {d nb sb pb:Nat} {now:List UInt8}
theorem Ha.not {k:Nat} (b:k≠nb) (c:k≠sb) (d:k≠pb):¬Ha nb sb pb k:=by
 rintro(a|a|a)
 ·exact b a
 ·exact c a
 ·exact d a
theorem Wu (c:Ef w d nb sb pb now) :
  Calls Tryz.prog 59 #[zP d] w (Rt (.tuple #[]) fun w'=>Ef w' d nb sb pb now/\Am (Ha nb sb pb) w w'):=by
 have j:=c.AB ((T0 w).drew);obtain⟨x,r,e,h⟩:=V9 j;obtain⟨t,v,f,i⟩:=VA e;obtain⟨n,o,_,_,_,_⟩:=c.cells;obtain⟨p,q,u,_,_,_⟩:=e.cells;have l:Hid (Am (Ha nb sb pb) w t):=Lh ((((Aa (Ha nb sb pb) w).drew).AJ h fun s _ b=>.inr (.inl b)).AJ i fun s _ b=>.inr (.inr b));have k:=Lh f;clear c j e h i f;go_in;go_wp2;refine GZ (fun W=>Cl W d 1 (zS sb 0 65 65)/\Cl W d 0 (zS nb 0 65 65)) ⟨o,n⟩ fun a=>?_
 refine hq 0 2 a ?_;refine hq 1 3 a ?_;refine hq 2 4 a ?_;refine hq 3 5 a ?_;refine hq 4 6 a ?_;refine hq 5 7 a ?_;refine hq 6 8 a ?_;refine hq 7 9 a ?_;refine Gg 8 fun m g=>?_
 rw[AQ (by rfl)];refine wp_copy_run (.tmp 5) (.tmp 9) 130 130 rfl rfl rfl (r _) ?_;rw[Ga 10 (by rfl)];dsimp only[Act.put,AZ,Bq,Bi];refine g.out _ _ ⟨q,p⟩ fun a=>?_
 clear g m;refine zw ?_;go_wp2;go_end0;exact⟨rfl,k.out,l.out⟩
theorem Oo (a:Ef w d nb sb pb now) :
  Calls Tryz.prog 83 #[zP d] w (Rt zO fun w'=>Ef w' d nb sb pb now/\Am (Ha nb sb pb) w w'):=by
 have e:=Lh (Tp a);have f:=Lh (Wu a);clear a;go_in;go_wp2_with (first
  |(go_at_call 123;refine e.out.mono ?_;rintro i k ⟨rfl,rfl⟩)
  |(go_at_call 59;refine f.out.mono ?_;rintro i j ⟨rfl,b,c⟩;have g:=Lh b;have h:=Lh c;clear b c))
 go_ret;exact⟨rfl,g.out,h.out⟩
theorem Ef.pend (a:Ef w d nb sb pb now) (i:Nat) (b:Bool):Ef (w.setCell (zA pb i) (.bool b)) d nb sb pb now/\Am (fun k=>k=pb) w (w.setCell (zA pb i) (.bool b)):=by
 obtain⟨h,f,l⟩:=a.NV;obtain⟨j,g,m⟩:=a.Mm;obtain⟨s,c,n⟩:=a.LC;have e:Am (fun k=>k=pb) w (w.setCell (zA pb i) (.bool b)):=(Aa (fun k=>k=pb) w).setCell (p:=zA pb i) (fun _=>rfl) _;have o:d≠pb:=AX.GJ a.BR c (by decide);have q:nb≠pb:=AX.GJ f c (by decide);have r:sb≠pb:=AX.GJ g c (by decide);exact⟨⟨a.BR.Ab e o,⟨h,f.Ab e q,l⟩,a.len,⟨j,g.Ab e r,m⟩,⟨_,c.Dw i _,by simp[n]⟩,a.ne⟩,e⟩
theorem P7 (b:Ef w d nb sb pb now) (i:Nat) (g:i<65) (s:BB) (h:s.size<=32) :
  Calls Tryz.prog 81 #[zP d,zI i,.string s] w (Rt zO fun w'=>Ef w' d nb sb pb (SH now i s.data.toList)/\Am (Ha nb sb pb) w w'):=by
 have p:=Lh (Tp b);have q:=Lh (RY b i (by omega) (by omega));obtain⟨U,O,f,k⟩:=X8 b i g;obtain⟨o,P,c,l⟩:=ZN f i g s h;rw[show s.size=s.data.toList.length from rfl,mY i (by have:=b.len;omega) h] at c;obtain⟨j,m⟩:=c.pend i true;obtain⟨y,z,A,B,D,E⟩:=b.cells;obtain⟨H,I,J,_,_,_⟩:=f.cells;obtain⟨K,L,M,_,_,_⟩:=c.cells;obtain⟨C,e,u⟩:=c.LC;have N:=e.frozen i;obtain⟨T,Q⟩:∃ v,Cl o pb i v:=⟨_,(e.cell i).trans (EZ (by omega))⟩
 have t:Hid (Am (Ha nb sb pb) w (o.setCell (zA pb i) (.bool true))):=Lh (((k.mono fun n _ a=>.inl a).AJ l fun n _ a=>.inl a).AJ m fun n _ a=>.inr (.inr a));have r:=Lh j;have R:(0:Int)<=(i:Int):=by omega
 have S:(i:Int)<65:=by omega
 have F:decide ((s.size:Int) > 32)=false:=by rw[Ag];omega
 have G:decide ((32:Int)<(s.size:Int))=false:=by rw[Ag];omega
 clear b f c j k l m e u h g;go_in;go_wp2_with (first
  |(go_at_call 74;refine q.out.mono ?_;rintro a x ⟨rfl,rfl⟩)
  |(go_at_call 123;refine p.out.mono ?_;rintro a x ⟨rfl,rfl⟩))
 go_ret;exact⟨rfl,r.out,t.out⟩
end

end Go.Proofs.YtcjcndnjpedniaaGreat
