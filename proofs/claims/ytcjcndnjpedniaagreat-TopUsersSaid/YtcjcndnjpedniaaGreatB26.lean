/- A part of the proof of TopUsers. -/
import Derived.Test.YtcjcndnjpedniaaGreatB25
namespace Go.Proofs.YtcjcndnjpedniaaGreat
set_option linter.all false
set_option maxRecDepth 100000
set_option maxHeartbeats 8000000
open Go.RowKit
def GY (c:Ca) (t:Int):Bool:=decide (c.BX<=t)&&decide (t<=c.till)
section
variable {W W' w:Bc} {base s nb bb wb:Nat} {room t:Int} {Z:List Ed} {fb:BB->Option Int} {fw:BB->Option MQ} {F:Nat->Prop}
theorem eH (a:FN w F base s room Z):Calls Tryz.prog 217 #[zP s] w (Rt (zI (Z.length:Int)) fun w'=>w=w'):=by
 obtain⟨nb,bb,wb,fb,fw,a,_⟩:=a;have b:Cl w s 2 (zI (Z.length:Int)):=a.BR.cell 2;clear a;go_in;go_wp2;go_ret;exact⟨rfl,rfl⟩
theorem SE (z:Ed) (g:Nat) (w:Bc) (f:Cl w g 0 (zI t)) (k:g<w.heap.size) :
  Calls Tryz.prog 203 #[.agg #[zI z.c.kind,zU z.c.Aq,.string z.c.Ad,.slice z.A z.c.Bl.length z.k,zI z.c.BX,zI z.c.till,zI z.c.AO],zP g] w (Rt (.bool (GY z.c t)) (Au w)):=by
 have b:Au w (w.alloc (.cells (Cu z.c z.A z.k) 31)):=(Aa _ w).alloc _;have a:Hid (AX (w.alloc (.cells (Cu z.c z.A z.k) 31)) w.heap.size 31 (Cu z.c z.A z.k)):=Lh (AX.new w _ _);have c:=Lh (XD z.c z.A z.k t (w.alloc (.cells (Cu z.c z.A z.k) 31)));have e:Cu z.c z.A z.k=#[zI z.c.kind,zU z.c.Aq,.string z.c.Ad,.slice z.A z.c.Bl.length z.k,zI z.c.BX,zI z.c.till,zI z.c.AO]:=rfl;rw[e] at b a c;have d:=Lh b;have j:(w.alloc (.cells #[zI z.c.kind,zU z.c.Aq,.string z.c.Ad,.slice z.A z.c.Bl.length z.k,zI z.c.BX,zI z.c.till,zI z.c.AO] 31)).cell? (zA g 0)=some (zI t):=(b.cell (p:=zA g 0) k id).trans f;clear f b e;go_in;go_upto_region 1 with(fail)
 generalize w.alloc (.cells #[zI z.c.kind,zU z.c.Aq,.string z.c.Ad,.slice z.A z.c.Bl.length z.k,zI z.c.BX,zI z.c.till,zI z.c.AO] 31)=m at a d c j ⊢;generalize w.heap.size=o at a ⊢;go_wp2_with (first
  |(refine AA rfl (.tmp 2) rfl rfl a.out Tryz.underlying31 rfl Cg ?_)
  |(go_at_call 204;refine c.out.mono ?_;rintro l n ⟨rfl,h⟩;have i:=Lh (d.out.to h);clear h))
 go_ret;exact⟨rfl,i.out⟩
def Zm (w:Bc) (Z:List Ed) (t:Int) (e:Ending) (w':Bc):Prop :=
 ∃ (c:Value) (a:List Int),e= .returned c/\w'.ownsRow w.heap.size 3 1 c a.length (a.map (Value.int .i64))/\a.length<=Z.length/\(∀ b,b∈a↔i64 b/\∃ d,fZ Z b=some d/\GY d.c t=true)/\Au w w'
theorem YQ (g:Nat) (w:Bc) (b:Ia w base s nb bb wb room Z fb fw) (cj:Z.length<=200) (E:Cl w g 0 (zI t)) (aw:g<w.heap.size) :
  Calls Tryz.prog 137 #[zP s,.func (.func 203) #[] #[zP g]] w (Zm w Z t):=by
 obtain⟨o,P,V,ax⟩:=b.nums;have cm:=PZ P V;have bm:Cl w s 3 (.map (some nb)):=b.BR.cell 3;have bf:=Lh fun a W (al:Au w W)=>SE (t:=t) a g W ((al.cell (p:=zA g 0) aw id).trans E) (Bj aw al.size)
 have bh:=Lh V;have bi:=Lh ax;obtain⟨cc,bp,bz,ca,cb⟩:=info_parts Nf;clear b V ax E;go_in;go_wp2_with (at_range;refine Jg _ rfl _ 235 rfl 3 31 Tryz.underlying235 nb o rfl P ?_;intro ce ba am bx);go_frame;have bv:w.heap.size<ce.heap.size:=by omega
 have N:=Lh ba;have ad:=Lh am;obtain⟨C,R⟩:∃ C,C=w.heap.size:=⟨_,rfl⟩
 have bg:=Lh R;rw[<- R] at N bv ⊢;clear ba am bx R bm P;go_loopg [5] o.length fun gk v wr=>∃ (left:List (Value × Value)) (h:List Int),left.length=gk/\Hid (Fq wr Tryz.prog 3 nb C o left)/\Hid (wr.ownsRow w.heap.size 3 1 v h.length (h.map (Value.int .i64)))/\h.length+left.length<=o.length/\Hid (∀ c∈h,i64 c/\∃ a,fZ Z c=some a/\GY a.c t=true)/\Hid (∀ c a,i64 c->fZ Z c=some a->GY a.c t=true->c∈h∨(Value.int .i64 c,Gy a)∈left)/\Hid (Au w wr)
 case atStart=>exact⟨o,[],rfl,N,Lh (World.ownsRow_nil _ _ _ _),by simp,Lh (fun c b=>by cases b),Lh fun c a j f _=>.inr (bi.out c a j f),ad⟩
 case round =>
  clear N ad;obtain⟨left,h,ck,ag,i,cl,H,L,I⟩:=hrel;have Y:=ag.out;obtain⟨ab,ak,bc⟩:=BD i.out;obtain⟨l,X⟩:∃ l,l=h.length:=⟨_,rfl⟩
  have J:=Lh X;rw[<- X] at bc i;subst bc;have co:l<=200:=by omega
  clear X;go_wp2_with (at_next;refine J2 _ rfl _ rfl 3 nb C o left rfl Y ?_ ?_)
  ·intro bq;subst bq;go_wp2_with (go_at_call 175;refine(Oh i.out (by omega)).mono ?_;rintro d cq ⟨rfl,bd,u,an,ap⟩;have bj:=Lh u;have af:=Lh an;have bl:=Lh ap;clear u an ap);go_ret;have br:bd.length=l:=by simpa using af.out.1
   refine⟨_,bd,rfl,by rw[br];exact af.out,by have:=J.out;omega,fun c=>?_,I.out.AJ bl.out fun ct e d=>by have:=BQ i.out d;omega⟩;rw[bj.out];exact⟨H.out c,fun⟨j,a,f,k⟩=>(L.out c a j f k).elim id fun b=>by cases b⟩
  ·intro p F x bu ay az bs u Q bw U;obtain⟨n,a,aq,ar,rfl⟩:=bh.out p ay;have T:Gy a= .agg #[zI a.c.kind,zU a.c.Aq,.string a.c.Ad,.slice a.A a.c.Bl.length a.k,zI a.c.BX,zI a.c.till,zI a.c.AO]:=rfl;dsimp only at U;have ae:=Lh u;have cg:=Lh T;rw[T] at U;have D:=(T0 F).alloc (.cells #[zI a.c.kind,zU a.c.Aq,.string a.c.Ad,.slice a.A a.c.Bl.length a.k,zI a.c.BX,zI a.c.till,zI a.c.AO] 31);have B:=Lh (AX.new F 31 #[zI a.c.kind,zU a.c.Aq,.string a.c.Ad,.slice a.A a.c.Bl.length a.k,zI a.c.BX,zI a.c.till,zI a.c.AO]);have M:=Lh (az.Ab D id id);have z:=Lh ((I.out.AJ Q fun ct e d=>by have:=bg.out;omega).to D);have K:=Lh (Aj (Aj i.out Q fun g E d=>by obtain⟨aj,S⟩:=Iq i.out E;exact Y.Ee S d) D fun _ _ b=>b);have cu:=Lh (bf.out a _ z.out);have G:Hid (i64 n/\fZ Z n=some a):=Lh ⟨aq,ar⟩;have cn:x.length<gk:=by omega
   clear D T Q bw Y az bu ay u aq ar ag i I bs;go_upto_region 5 with(fail)
   clear U;generalize F.alloc (.cells #[zI a.c.kind,zU a.c.Aq,.string a.c.Ad,.slice a.A a.c.Bl.length a.k,zI a.c.BX,zI a.c.till,zI a.c.AO] 31)=cp at B M z K cu ⊢;generalize F.heap.size=cr at B ⊢;generalize av:GY a.c t=bo at cu;have ac:=Lh av;clear av;rcases bo with _|_
   ·go_wp2_with (first
     |(refine AA rfl (.tmp 7) rfl rfl B.out Tryz.underlying31 rfl Cg ?_)
     |(refine cu.out.mono ?_;rintro d cs ⟨rfl,e⟩;have q:=Lh (M.out.Ab e id id);have A:=Lh (z.out.to e);have m:=Lh (Aj K.out e fun _ _ b=>b);clear e))
    go_roundg x.length
    case measure=>omega
    case rel =>
     refine⟨x,h,rfl,q,by rw[<- J.out];exact m,by omega,H,Lh fun c y j f k=>(L.out c y j f k).elim .inl fun b=>.inr ((ae.out _).2 ⟨b,fun d=>?_⟩),A⟩;injection d with _ d;subst d;rw[G.out.2] at f;injection f with f;rw[<- f,ac.out] at k;cases k
   ·go_wp2_with (first
     |(refine AA rfl (.tmp 7) rfl rfl B.out Tryz.underlying31 rfl Cg ?_)
     |(refine cu.out.mono ?_;rintro d cs ⟨rfl,e⟩;have q:=Lh (M.out.Ab e id id);have A:=Lh (z.out.to e);have m:=Lh (Aj K.out e fun _ _ b=>b);clear e)
     |(at_builtin;go_must (refine wpList_append_lies _ rfl (.tmp 21) (.tmp 23) 205 rfl w.heap.size 3 cc _ 1 8 Tryz.underlying205 bp bz ca cb rfl (by omega) (.slice ab l ak) l _ rfl (m.out.alloc _) (zA cs.heap.size 0) 1 1 [zI n] rfl rfl (World.news_of_block (cs:=#[zI n]) (t:=3) (fr:=(0,0)) (heap_alloc_new cs _)) (by simp[Value.oneCell']) (by omega) (by unfold maxLen;omega) (by omega) (by have:=A.out.size;simp;omega) (cs.heap.size+1) (by simp) ?_);intro ci ch cf ai au bn bt;have ao:Am (fun ct=>(Value.slice ab l ak).ownBlock=some ct) cs cf:=((Aa _ cs).alloc _).grown au fun ct b _=>b;have ah:=Lh ao;have bk:=Lh ai;clear ai au bn bt ao))
    go_roundg x.length
    case measure=>omega
    case rel =>
     refine⟨x,h++[n],rfl,Lh (q.out.Ab ah.out (q.out.map.own_ne m.out) fun d=>by obtain⟨aj,S⟩:=Iq m.out d;exact q.out.Ee S rfl),?_,by simp only[Ap,Cv];omega,Lh fun c r=>?_,Lh fun c y j f k=>?_,Lh (A.out.AJ ah.out fun ct e d=>by have:=BQ m.out d;omega)⟩
     ·rw[Ap,Bw,<- J.out];exact bk
     ·rcases Bd.1 r with r|r
      ·exact H.out c r
      ·rw[Ai.1 r];exact⟨G.out.1,a,G.out.2,ac.out⟩
     ·rcases L.out c y j f k with b|b
      ·exact .inl (Bd.2 (.inl b))
      ·by_cases d:c=n
       ·exact .inl (by rw[d];simp)
       ·exact .inr ((ae.out _).2 ⟨b,fun O=>by injection O with _ O;exact d O⟩)
end

section
variable {W W' w:Bc} {base s nb bb wb:Nat} {room t:Int} {Z:List Ed} {fb:BB->Option Int} {fw:BB->Option MQ} {F:Nat->Prop}
theorem YO (w:Bc) (d:Ia w base s nb bb wb room Z fb fw) (o:Z.length<=200):Calls Tryz.prog 171 #[zP s,zI t] w (Zm w Z t):=by
 have b:Au w (w.alloc (.cells #[zI t] 2)):=(Aa _ w).alloc _;have a:=AX.new w 2 #[zI t];have i:=Lh (YQ (t:=t) w.heap.size _ (d.AB b) o (a.cell 0) a.lt);have c:=Lh b;clear d b a;go_in;go_wp2_with (go_at_call 137;refine i.out.mono ?_;rintro q r ⟨p,n,rfl,e,h,f,g⟩;have m:=Lh e;have l:=Lh h;have j:=Lh f;have k:=Lh g;clear e h f g);go_ret;exact⟨p,n,rfl,Du m.out c.out.size,l.out,j.out,c.out.to k.out⟩
def Ze (w:Bc) (Z:List Ed) (t:Int) (e:Ending) (w':Bc):Prop :=
 ∃ (f:Option Addr) (g:Nat) (a:List Ed),e= .returned (.slice f a.length g)/\w'.ownsRow w.heap.size 31 7 (.slice f a.length g) a.length ((a.map Gy).flatMap (·.cells.toList))/\(∀ b∈a,w'.ownsRow w.heap.size 27 1 (.slice b.A b.c.Bl.length b.k) b.c.Bl.length (b.c.Bl.map Value.string))/\(∀ d,d∈a.map (·.c)↔d∈Z.map (·.c)/\GY d t=true)/\a.length<=Z.length/\Au w w'
theorem X0 (w:Bc) (b:FN w F base s room Z) (be:Z.length<=200):Calls Tryz.prog 131 #[zP s,zI t] w (Ze w Z t):=by
 obtain⟨nb,bb,wb,fb,fw,b,_⟩:=b;have au:=Lh (YO (t:=t) w b be);have aq:=Lh fun W (a:Ed) (d:a∈Z) (m:Addr) (bd:Au w W) (r:a.A=some m)=>Qs a.c m a.k W (by have:=(Cm (b.ok a d).set).2.1;omega) (by rw[<- r];exact(Ay.Ea (V:=Value.string) (fun _=>rfl) (b.Bl a d)).AB bd)
 have ay:Hid (∀ a∈Z,∃ m,a.A=some m):=Lh fun a d=>by
  obtain⟨g,c,G,_⟩:=World.ownsRow.form (b.Bl a d) (by have:=(Cm (b.ok a d).set).1;omega);injection G with G;exact⟨_,G⟩
 have av:=Lh b;obtain⟨bm,bh,bj,bk,bl⟩:=info_parts M6;clear b;go_in;go_wp2_with (go_at_call 171;refine au.out.mono ?_;rintro j R ⟨cc,l,rfl,J,am,h,k⟩;obtain⟨bq,bv,rfl⟩:=BD J;have ax:=Lh J;have X:=Lh am;have C:=Lh h;have x:=Lh k;clear J am h k;obtain⟨i,N⟩:∃ i,i=l.length:=⟨_,rfl⟩;have D:=Lh N;have ca:i<=200:=(by have:=X.out;omega);rw[<- N];clear N);go_loopg [5,12] i fun gk v f wr=>∃ (e:Nat) (cd:List Ed),e+gk=i/\f=zI e/\Hid (wr.ownsRow R.heap.size 31 7 v e ((cd.map Gy).flatMap (·.cells.toList)))/\Hid (cd.length=e)/\Hid (∀ a∈cd,wr.ownsRow w.heap.size 27 1 (.slice a.A a.c.Bl.length a.k) a.c.Bl.length (a.c.Bl.map Value.string))/\Hid (cd.map (·.c)=(l.take e).filterMap fun f=>(fZ Z f).map (·.c))/\Hid (Au R wr)
 case atStart=>exact⟨0,[],by omega,rfl,Lh (World.ownsRow_nil _ _ _ _),Lh rfl,Lh (fun a b=>by cases b),Lh (by simp),Lh (Aa _ _)⟩
 case round =>
  obtain⟨e,cd,bx,rfl,cg,A,aa,ab,ce⟩:=hrel;by_cases bz:e<i
  ·have bn:(e:Int)<(i:Int):=by omega
   have M:e<l.length:=by have:=D.out;omega
   obtain⟨bs,cb,rfl,bf,ah⟩:=Ay.BV (V:=Value.int .i64) (fun _=>rfl) ((Ay.Ea (V:=Value.int .i64) (fun _=>rfl) ax.out).AB ce.out) M;obtain⟨f,h⟩:∃ f,f=l[e]:=⟨_,rfl⟩
   have az:Hid (l.take (e+1)=l.take e++[f]):=Lh (by rw[AP M,h]);have al:f∈l:=by rw[h];exact Br M
   rw[<- h] at ah;obtain⟨ak,a,d,bg⟩:=(C.out f).1 al;have P:a∈Z:=by
    unfold fZ at d;split at d
    ·exact Bn d
    ·cases d
   obtain⟨m,r⟩:=ay.out a P;have I:=x.out.to ce.out;have H:=av.out.AB I;have bt:Cl wr s 3 (.map (some nb)):=H.BR.cell 3;have an:=H.nums.Jc (T:=235) (e:=31) WX Tryz.underlying235 ak d false;have ai:Gy a= .agg #[zI a.c.kind,zU a.c.Aq,.string a.c.Ad,.slice (some m) a.c.Bl.length a.k,zI a.c.BX,zI a.c.till,zI a.c.AO]:=by rw[<- r];rfl
   rw[ai] at an;simp only[CJ,if_false] at an;have ar:=Lh (aq.out wr a P m I r);have ba:=Lh d;obtain⟨cf,B,O⟩:=BD cg.out;subst O;clear h ai H I r bg P d ak al bf;go_upto_region 5 with(fail)
   clear ah;go_wp2_with (first
    |(go_at_call 170;refine ar.out.mono ?_;rintro j o ⟨p,u,rfl,ae,k⟩;have S:=Lh (Du (base':=w.heap.size) ae (x.out.to ce.out).size);have U:=Lh (ce.out.to k);have z:=Lh (Aj cg.out k fun _ _ b=>b);have Y:Hid (∀ a∈cd,o.ownsRow w.heap.size 27 1 (.slice a.A a.c.Bl.length a.k) a.c.Bl.length (a.c.Bl.map Value.string)):=Lh fun a d=>Aj (aa.out a d) k fun _ _ b=>b;clear k ae)
    |(at_builtin;go_must (refine wpList_append_lies _ rfl (.tmp 16) (.tmp 24) 23 rfl R.heap.size 31 bm _ 7 80 Tryz.underlying23 bh bj bk bl rfl (by omega) (.slice cf e B) e _ rfl (z.out.alloc _) (zA o.heap.size 0) 1 1 [zI a.c.kind,zU a.c.Aq,.string a.c.Ad,.slice p a.c.Bl.length u,zI a.c.BX,zI a.c.till,zI a.c.AO] rfl rfl (World.news_of_block (cs:=#[zI a.c.kind,zU a.c.Aq,.string a.c.Ad,.slice p a.c.Bl.length u,zI a.c.BX,zI a.c.till,zI a.c.AO]) (t:=31) (fr:=(0,0)) (heap_alloc_new o _)) (by simp[Value.oneCell']) (by omega) (by unfold maxLen;omega) (by omega) (by have:=U.out.size;simp;omega) (o.heap.size+1) (by simp) ?_);intro bw bu bp ac aj ag bi;have af:Am (fun Q=>(Value.slice cf e B).ownBlock=some Q) o bp:=((Aa _ o).alloc _).grown aj fun Q b _=>b;have E:=Lh af;have aw:=Lh ac;have br:=Lh ag;clear ac aj ag bi af))
   go_roundg (gk-1)
   case measure=>omega
   case rel =>
    refine⟨e+1,cd++[⟨a.c,p,u⟩],by omega,by go_num,Lh ?_,Lh (by rw[Ap,A.out];rfl),Lh fun y n=>?_,Lh ?_,Lh (U.out.AJ E.out fun Q k j=>by have:=BQ z.out j;omega)⟩
    ·rw[show((cd++[(⟨a.c,p,u⟩:Ed)]).map Gy).flatMap (·.cells.toList)=(cd.map Gy).flatMap (·.cells.toList)++[zI a.c.kind,zU a.c.Aq,.string a.c.Ad,.slice p a.c.Bl.length u,zI a.c.BX,zI a.c.till,zI a.c.AO] by rw[Bw,Fw];rfl];exact aw.out
    ·rcases Bd.1 n with n|n
     ·exact Aj (Y.out y n) E.out fun g K j=>Ex z.out (Y.out y n) (by decide) j K
     ·rw[Ai.1 n];exact Aj S.out E.out fun g K j=>Ex z.out S.out (by decide) j K
    ·rw[az.out,Bw,ab.out,List.filterMap_append];simp[ba.out]
  ·have bn:¬(e:Int)<(i:Int):=by omega
   obtain rfl:e=i:=by omega
   obtain⟨cf,B,O⟩:=BD cg.out;subst O;go_wp2;go_ret;refine⟨cf,B,cd,by rw[A.out];rfl,by rw[A.out];exact Du cg.out x.out.size,aa.out,fun c=>?_,by have:=A.out;have:=D.out;have:=X.out;omega,x.out.to ce.out⟩;rw[ab.out,Bt (by have:=D.out;omega),List.mem_filterMap];constructor
   ·rintro⟨f,h,b⟩;obtain⟨_,a,d,L⟩:=(C.out f).1 h;rw[d] at b;injection b with b;subst b;refine⟨Bp.2 ⟨a,?_,rfl⟩,L⟩;unfold fZ at d;split at d
    ·exact Bn d
    ·cases d
   ·rintro⟨b,L⟩;obtain⟨a,d,rfl⟩:=Bp.1 b;obtain⟨q,hq,rfl⟩:=CQ d;refine⟨(q:Int),(C.out _).2 ⟨by constructor<;>omega,Z[q],by rw[WT];exact Ah hq,L⟩,by rw[WT,Ah hq];rfl⟩
end

section
variable {W W' w:Bc} {base s nb bb wb:Nat} {room t:Int} {Z:List Ed} {fb:BB->Option Int} {fw:BB->Option MQ} {F:Nat->Prop}
theorem dJ (a b:Int) (w:Bc):(Instr.index 382 (.agg #[zI a,zI b]) zO).run Tryz.prog w= .ok (zI a) w:=by kernel_rfl
theorem dK (a b:Int) (w:Bc):(Instr.index 382 (.agg #[zI a,zI b]) (zI 1)).run Tryz.prog w= .ok (zI b) w:=by kernel_rfl
def oC (w:Bc) (e:Ending) (w':Bc):Prop:=∃ b a,e= .returned (.tuple #[zI b,.bool a])/\Au w w'
theorem bN (w:Bc) (d:FN w F base s room Z) :
  Calls Tryz.prog 221 #[zP s,zI t] w (oC w):=by
 obtain⟨nb,bb,wb,fb,fw,d,_⟩:=d;obtain⟨f,r,x,ab⟩:=d.nums;have aq:=PZ r x;have U:Cl w s 3 (.map (some nb)):=d.BR.cell 3;have S:=Lh x;have T:=Lh d.ok;clear d x ab;go_in;go_wp2_with (at_range;refine Jg _ rfl _ 235 rfl 3 31 Tryz.underlying235 nb f rfl r ?_;intro ax O H ag);go_frame;have o:=Lh O;have D:=Lh H;obtain⟨az,u⟩:∃ az,az=w.heap.size:=⟨_,rfl⟩
 have R:=Lh u;rw[<- u] at o ⊢;clear O H ag u U r;go_loopg [6,7] f.length fun gk B A wr=>∃ (left:List (Value × Value)) (c:Int) (b:Bool),left.length=gk/\B=zI c/\A= .bool b/\Hid (Fq wr Tryz.prog 3 nb az f left)/\Hid (Au w wr)
 case atStart=>exact⟨f,0,false,rfl,rfl,rfl,o,D⟩
 case round =>
  clear o D;obtain⟨left,c,b,an,rfl,rfl,E,n⟩:=hrel;have M:=E.out;go_wp2_with (at_next;refine J2 _ rfl _ rfl 3 nb az f left rfl M ?_ ?_)
  ·intro ap;go_wp2;go_ret2;exact⟨c,b,rfl,n.out⟩
  ·intro p m z ae L N ac ad I af v;obtain⟨al,a,aa,ay,rfl⟩:=S.out p L;have P:a∈Z:=by
    unfold fZ at ay;split at ay
    ·exact Bn ay
    ·cases ay
   have l:=T.out a P;have X:=l.f0;have J:=l.ft;have Y:=l.tm;have K:Gy a= .agg #[zI a.c.kind,zU a.c.Aq,.string a.c.Ad,.slice a.A a.c.Bl.length a.k,zI a.c.BX,zI a.c.till,zI a.c.AO]:=rfl;dsimp only at v;rw[K] at v;have q:=(T0 m).alloc (.cells #[zI a.c.kind,zU a.c.Aq,.string a.c.Ad,.slice a.A a.c.Bl.length a.k,zI a.c.BX,zI a.c.till,zI a.c.AO] 31);have h:=Lh (AX.new m 31 #[zI a.c.kind,zU a.c.Aq,.string a.c.Ad,.slice a.A a.c.Bl.length a.k,zI a.c.BX,zI a.c.till,zI a.c.AO]);have G:=Lh (N.Ab q id id);have C:=Lh ((n.out.AJ I fun k ao e=>by have:=R.out;omega).to q);have ar:z.length<gk:=by omega
   clear q K I af M N ae L ad aa ay E n ac l P;go_upto_region 5 with(fail)
   go_upto_region 6 with(fail)
   clear v;generalize m.alloc (.cells #[zI a.c.kind,zU a.c.Aq,.string a.c.Ad,.slice a.A a.c.Bl.length a.k,zI a.c.BX,zI a.c.till,zI a.c.AO] 31)=g at h G C ⊢;generalize m.heap.size=Q at h ⊢;have aj:Cl g Q 4 (zI a.c.BX):=h.out.cell 4;have ak:Cl g Q 5 (zI a.c.till):=h.out.cell 5;generalize a.c.BX=i at aj X J;generalize a.c.till=j at ak J Y;have au:=dJ i (j+1) g;have av:=dK i (j+1) g;go_wp2;go_loopg [6,7,27] 2 fun ba B A y ai=>∃ (c:Int) (b:Bool),B=zI c/\A= .bool b/\g=ai/\((ba=2/\y=zI 0)∨(ba=1/\y=zI 1)∨(ba=0/\y=zI 2))
   case atStart=>exact⟨c,b,rfl,rfl,rfl,.inl ⟨rfl,rfl⟩⟩
   case round =>
    obtain⟨c,b,rfl,rfl,rfl,⟨rfl,rfl⟩|⟨rfl,rfl⟩|⟨rfl,rfl⟩⟩:=hrel
    ·rcases V:decide (t<i) with _|_<;>rcases b with _|_<;>rcases W:decide (i<c) with _|_
     all_goals
      go_wp2;go_roundg 1
      case measure=>omega
      case rel=>exact⟨_,_,rfl,rfl,rfl,.inr (.inl ⟨rfl,rfl⟩)⟩
    ·rcases V:decide (t<j+1) with _|_<;>rcases b with _|_<;>rcases W:decide (j+1<c) with _|_
     all_goals
      go_wp2;go_roundg 0
      case measure=>omega
      case rel=>exact⟨_,_,rfl,rfl,rfl,.inr (.inr ⟨rfl,rfl⟩)⟩
    ·go_wp2;go_roundg z.length
     case measure=>omega
     case rel=>exact⟨z,c,b,rfl,rfl,rfl,G,C⟩
end

section
variable {W W' w:Bc}
theorem Yc (F:Nat->Prop) (R:Bc->Bc->Prop) (c:Ca) (b:Addr) (k nb r:Nat) (w:Bc) (H:Cl w nb 8 (zP r)) (D:nb<w.heap.size) (hF:∀ k,F k->k<w.heap.size/\k≠nb) (I:Cn c) (J:Ay Value.string w w.heap.size 1 (some b) c.Bl)
  (s:∀ W,Au w W->Calls Tryz.prog 62 #[zP r,zU c.Aq,.string (Dy (Db c))] W fun e w'=>(∃ x,e= .returned (zI x))/\R W w'/\Am F W w') :
  Calls Tryz.prog 93 #[zP nb,.agg (Cu c (some b) k)] w (Rt (.tuple #[]) fun w'=>∃ m,Au w m/\R m w'/\Am F m w'):=by
 have G:Cu c (some b) k=#[zI c.kind,zU c.Aq,.string c.Ad,.slice (some b) c.Bl.length k,zI c.BX,zI c.till,zI c.AO]:=rfl;have d:Au w (w.alloc (.cells (Cu c (some b) k) 31)):=(Aa _ w).alloc _;have f:Hid (AX (w.alloc (.cells (Cu c (some b) k) 31)) w.heap.size 31 (Cu c (some b) k)):=Lh (AX.new w _ _);have j:=Lh (Ja c (some b) k _ I (J.AB d));rw[G] at j f d ⊢;have u:=Lh d;have O:=Lh s;have z:=Lh H;have l:=Lh D;have t:=Lh hF;clear G d J I s H D hF;go_in;go_upto_region 1 with(fail)
 obtain⟨i,q⟩:∃ i,i=w.heap.size:=⟨_,rfl⟩
 have T:=Lh q;generalize w.alloc (.cells #[zI c.kind,zU c.Aq,.string c.Ad,.slice (some b) c.Bl.length k,zI c.BX,zI c.till,zI c.AO] 31)=X at f u j ⊢;rw[<- q] at f ⊢;clear q;go_upto_region 3 with(first
  |(refine AA rfl (.tmp 3) rfl rfl f.out Tryz.underlying31 rfl Cg ?_)
  |(go_at_call 60;refine j.out.mono ?_;rintro e M ⟨rfl,o⟩;have A:=Lh (f.out.Ab o id);have v:=Lh (u.out.to o);clear o))
 have L:=(v.out.cell (p:=zA nb 8) l.out id).trans z.out;have N:Cl M i 1 (zU c.Aq):=A.out.cell 1;refine GZ (fun W=>Cl W nb 8 (zP r)/\Cl W i 1 (zU c.Aq)) ⟨L,N⟩ fun a=>?_
 have B:=Lh A.out.drew;have y:=Lh v.out.drew;clear L N;generalize M.drew=V at B y a ⊢;have g:=y;refine hq 0 13 a ?_;refine hq 1 14 a ?_;refine hq 2 15 a ?_;refine hq 3 16 a ?_;refine hq 4 17 a ?_;refine hq 5 18 a ?_;refine hq 6 19 a ?_;refine hq 7 20 a ?_;refine Gg 8 fun U d=>?_
 go_simp;refine(O.out _ g.out).mono ?_;rintro e Y ⟨⟨x,rfl⟩,C,h⟩;have Q:=Lh C;have S:=Lh h;have E:=(h.cell (p:=zA nb 8) (Bj l.out g.out.size) fun n=>(t.out _ n).2 rfl).trans ((g.out.cell (p:=zA nb 8) l.out id).trans z.out);have K:=(B.out.Ab h fun n=>Bv (t.out _ n).1 (by have:=T.out;omega)).cell 1;have P:=Lh (Bf E K);clear C h E K;go_wp2;refine d.out _ _ (P.out) fun a=>?_
 clear d U;refine zw ?_;clear a;go_wp2;go_end0;exact⟨rfl,V,g.out,Q.out,S.out⟩
def qE (w:Bc) (F:Nat->Prop) (base s:Nat) (room:Int) (Z:List Ed) (c:Ca) (r:Bool) (e:Ending) (w':Bc):Prop :=
 e= .returned (.bool r)/\∃ a,FN w' (WK F w w') base s room a/\a.map (·.c)=(if r=true then Jw (Z.map (·.c)) c else Z.map (·.c))/\Am F w w'
theorem ZZ {F:Nat->Prop} {b w2:Bc} {k:Nat} (a:WK F b w2 k) (c:w.heap.size<=b.heap.size):WK F w w2 k:=a.imp id fun a=>⟨AV c a.1,a.2⟩
theorem Tf {F:Nat->Prop} {base s:Nat} {room:Int} {Z:List Ed} (c:Ca) (e:Addr) (k nb n:Nat) (r:Bool) (w:Bc) (U:Cl w nb 8 (zP n)) (X:Cl w nb 0 (zP s)) (R:nb<w.heap.size)
  (b:FN w F base s room Z) (N:¬F nb) (O:∀ k,F k->k<w.heap.size) (y:Cn c) (z:Ay Value.string w w.heap.size 1 (some e) c.Bl) (hF:¬F e.block) (S:base<=w.heap.size) (Q:(Z.length:Int)<room) (V:room<=200)
  (C:∀ W,Au w W->Calls Tryz.prog 128 #[zP n,zU c.Aq,.string (Dy (Db c))] W (Rt (.bool r) (Au W))) :
  Calls Tryz.prog 94 #[zP nb,.agg (Cu c (some e) k)] w (qE w F base s room Z c r):=by
 have T:Cu c (some e) k=#[zI c.kind,zU c.Aq,.string c.Ad,.slice (some e) c.Bl.length k,zI c.BX,zI c.till,zI c.AO]:=rfl;have d:Au w (w.alloc (.cells (Cu c (some e) k) 31)):=(Aa _ w).alloc _;have l:Hid (AX (w.alloc (.cells (Cu c (some e) k) 31)) w.heap.size 31 (Cu c (some e) k)):=Lh (AX.new w _ _);have q:=Lh (Ja c (some e) k _ y (z.AB d));have B:=Lh fun W (d:Au w W)=>Yq c e k W (b.AB d) y (z.AB d) hF (AV S d.size) Q V
 have ai:=Lh b;rw[T] at q B l d ⊢;have D:=Lh d;have ae:=Lh C;have G:=Lh U;have H:=Lh X;have j:=Lh R;have af:=Lh N;have ag:=Lh O;clear T d z y C U X R hF b N S Q V O;go_in;go_upto_region 1 with(fail)
 obtain⟨g,A⟩:∃ g,g=w.heap.size:=⟨_,rfl⟩
 have aj:=Lh A;generalize w.alloc (.cells #[zI c.kind,zU c.Aq,.string c.Ad,.slice (some e) c.Bl.length k,zI c.BX,zI c.till,zI c.AO] 31)=aq at l D q ⊢;rw[<- A] at l ⊢;clear A;go_upto_region 2 with(first
  |(refine AA rfl (.tmp 3) rfl rfl l.out Tryz.underlying31 rfl Cg ?_)
  |(go_at_call 60;refine q.out.mono ?_;rintro M ab ⟨rfl,f⟩;have I:=Lh (l.out.Ab f id);have E:=Lh (D.out.to f);clear f))
 have aa:=(E.out.cell (p:=zA nb 8) j.out id).trans G.out;have ad:Cl ab g 1 (zU c.Aq):=I.out.cell 1;refine GZ (fun W=>Cl W nb 8 (zP n)/\Cl W g 1 (zU c.Aq)) ⟨aa,ad⟩ fun a=>?_
 have m:=Lh I.out.drew;have u:=Lh E.out.drew;clear aa ad;generalize ab.drew=ar at m u a ⊢;refine hq 0 12 a ?_;refine hq 1 13 a ?_;refine hq 2 14 a ?_;refine hq 3 15 a ?_;refine hq 4 16 a ?_;refine hq 5 17 a ?_;refine hq 6 18 a ?_;refine hq 7 19 a ?_;refine hq 8 20 a ?_;refine hq 9 21 a ?_;refine hq 10 22 a ?_;refine Gg 11 fun v d=>?_
 go_simp;refine(ae.out _ u.out).mono ?_;rintro M o ⟨rfl,f⟩;have av:=Lh (u.out.to f);replace m:=Lh (m.out.Ab f id);have t:Hid (Cl o nb 8 (zP n)/\Cl o g 1 (zU c.Aq)):=Lh ⟨(av.out.cell (p:=zA nb 8) j.out id).trans G.out,m.out.cell 1⟩;clear f;go_wp2;refine d.out _ _ (t.out) fun a=>?_
 clear d v;refine hq 12 24 a ?_;refine hq 13 25 a ?_;refine zw ?_;clear a;have J:=Lh (m.out.Ab (T0 o) id);rcases r with _|_
 ·go_wp2;go_ret;exact⟨rfl,Z,(ai.out.AB av.out).mono fun k b=>.inl b,rfl,av.out.mono fun _ _ b=>b.elim⟩
 ·go_upto_region 4 with(fail)
  have Y:=(av.out.cell (p:=zA nb 0) j.out id).trans H.out;refine GZ (fun W=>Cl W nb 0 (zP s)/\AX W g 31 #[zI c.kind,zU c.Aq,.string c.Ad,.slice (some e) c.Bl.length k,zI c.BX,zI c.till,zI c.AO]) ⟨Y,J.out.drew⟩ fun a=>?_
  have K:=Lh J.out.drew;have h:=Lh av.out.drew;clear Y;generalize o.drew=au at K h a ⊢;refine hq 0 26 a ?_;refine hq 1 27 a ?_;refine hq 2 28 a ?_;refine hq 3 29 a ?_;refine hq 4 30 a ?_;refine hq 5 31 (hx:=fun W an=>Ce (.tmp 3) rfl rfl an.2 Tryz.underlying31 rfl Cg) a ?_;refine Gg 6 fun v d=>?_
  go_simp;refine(B.out _ h.out).mono ?_;rintro M ac ⟨⟨i,ao,rfl⟩,x⟩;have ah:=Lh x;have t:Hid (Cl ac nb 0 (zP s)/\AX ac g 31 #[zI c.kind,zU c.Aq,.string c.Ad,.slice (some e) c.Bl.length k,zI c.BX,zI c.till,zI c.AO]):=Lh (by obtain⟨L,_,_,P⟩:=x;exact⟨(P.cell (p:=zA nb 0) (Bj j.out h.out.size) af.out).trans ((h.out.cell (p:=zA nb 0) j.out id).trans H.out),K.out.Ab P fun b=>Bv (ag.out _ b) (by have:=aj.out;omega)⟩);clear x;go_wp2;refine d.out _ _ (t.out) fun a=>?_
  clear d v;refine zw ?_;clear a;go_wp2;go_ret;obtain⟨L,ak,al,am⟩:=ah.out;exact⟨rfl,L,ak.mono fun k b=>ZZ b h.out.size,al,(h.out.mono fun _ _ b=>b.elim).AJ am fun k _ b=>b⟩
end

section
variable {W W' w:Bc} {F:Nat->Prop} {base s nb kb:Nat} {room t:Int} {Z:List Ed}
theorem PY (w:Bc) (i:FN w F base s room Z) (B:Z.length<=200) (f:Cl w nb 0 (zP s)) (e:Cl w nb 4 (zI t)) (n:nb<w.heap.size) :
  Calls Tryz.prog 98 #[zP nb] w (Ze w Z t):=by
 have r:=Lh fun W (b:Au w W)=>X0 (t:=t) W (i.AB b) B
 have z:Hid (∀ W,Au w W->Cl W nb 0 (zP s)/\Cl W nb 4 (zI t)):=Lh fun W b=>⟨(b.cell (p:=zA nb 0) n id).trans f,(b.cell (p:=zA nb 4) n id).trans e⟩
 clear i;go_in;go_upto_region 1 with(fail)
 refine GZ (fun W=>Cl W nb 0 (zP s)/\Cl W nb 4 (zI t)) ⟨f,e⟩ fun a=>?_
 have d:Hid (Au w w.drew):=Lh (Aa _ w).drew;clear f e;generalize w.drew=H at d a ⊢;refine hq 0 3 a ?_;refine hq 1 4 a ?_;refine hq 2 5 a ?_;refine hq 3 6 a ?_;refine hq 4 7 a ?_;refine hq 5 8 a ?_;refine hq 6 9 a ?_;refine hq 7 10 a ?_;refine hq 8 11 a ?_;refine hq 9 12 a ?_;refine Gg 10 fun A b=>?_
 go_simp;refine(r.out _ d.out).mono ?_;rintro G E ⟨q,D,h,rfl,j,k,l,m,o⟩;have u:=Lh (Du j d.out.size);have v:Hid (∀ c∈h,E.ownsRow w.heap.size 27 1 (.slice c.A c.c.Bl.length c.k) c.c.Bl.length (c.c.Bl.map Value.string)):=Lh fun c C=>Du (k c C) d.out.size
 have x:=Lh l;have y:=Lh m;have g:=Lh (d.out.to o);clear j k l m o;go_wp2;refine b.out _ _ (z.out _ g.out) fun a=>?_
 clear b A;refine hq 11 2 a ?_;refine zw ?_;clear a;go_wp2;go_ret;exact⟨q,D,h,rfl,u.out,v.out,x.out,y.out,g.out⟩
end

section
variable {W W' w:Bc}
theorem UX (g h l m o q r s t u i j:Value) (nb F:Nat) (ch d seq:Int) (f:BB) (w:Bc) (K:Cl w nb 8 (zP F)) (J:nb<w.heap.size)
  (z:∀ W,Au w W->Calls Tryz.prog 66 #[.agg #[g,h,l,m,o,q,r,s,t,u,i,j]] W (Rt (.tuple #[.agg #[zU ch,zI d,zI seq,.string f],zO]) (Au W)))
  (B:∀ W,Au w W->Calls Tryz.prog 189 #[zP F,.agg #[zU ch,zI d,zI seq,.string f]] W fun e w'=>∃ A n k,e= .returned (.slice A n k)/\0<n/\Au W w') :
  Calls Tryz.prog 146 #[zP nb,.agg #[g,h,l,m,o,q,r,s,t,u,i,j]] w (Rt (.bool true) (Au w)):=by
 have z:=Lh z;have B:=Lh B;have E:Hid (AX (w.alloc (.cells #[g,h,l,m,o,q,r,s,t,u,i,j] 104)) w.heap.size 104 #[g,h,l,m,o,q,r,s,t,u,i,j]):=Lh (AX.new w _ _);have C:Hid (Au w (w.alloc (.cells #[g,h,l,m,o,q,r,s,t,u,i,j] 104))):=Lh ((Aa _ w).alloc _);have I:=Lh fun W (y:Au w W)=>(y.cell (p:=zA nb 8) J id).trans K
 clear K J;go_in;go_upto_region 1 with(fail)
 generalize w.alloc (.cells #[g,h,l,m,o,q,r,s,t,u,i,j] 104)=T at E C ⊢;generalize w.heap.size=X at E ⊢;go_upto_region 2 with(first
  |(refine AA rfl (.tmp 3) rfl rfl E.out Tryz.underlying104 rfl BM ?_)
  |(go_at_call 66;refine(z.out _ C.out).mono ?_;rintro e c ⟨rfl,b⟩;have v:=Lh (C.out.to b);clear b))
 have b:Au c (c.alloc (.cells #[zU ch,zI d,zI seq,.string f] 159)):=(Aa _ c).alloc _;have x:Hid (AX (c.alloc (.cells #[zU ch,zI d,zI seq,.string f] 159)) c.heap.size 159 #[zU ch,zI d,zI seq,.string f]):=Lh (AX.new c _ _);replace v:=Lh (v.out.to b);clear b;generalize c.alloc (.cells #[zU ch,zI d,zI seq,.string f] 159)=Q at x v ⊢;generalize c.heap.size=P at x ⊢;have L:=I.out _ v.out;refine GZ (fun W=>Cl W nb 8 (zP F)/\AX W P 159 #[zU ch,zI d,zI seq,.string f]) ⟨L,x.out.drew⟩ fun a=>?_
 have H:=Lh x.out.drew;have D:=Lh v.out.drew;clear L;generalize Q.drew=U at H D a ⊢;refine hq 0 12 a ?_;refine hq 1 13 a ?_;refine hq 2 14 a ?_;refine hq 3 15 a ?_;refine hq 4 16 a ?_;refine hq 5 17 a ?_;refine hq 6 18 a ?_;refine hq 7 19 a ?_;refine hq 8 20 (hx:=fun W O=>Ce (.tmp 5) rfl rfl O.2 Tryz.underlying159 rfl K8) a ?_;refine Gg 9 fun N y=>?_
 go_simp;refine(B.out _ D.out).mono ?_;rintro e V ⟨A,n,k,rfl,S,b⟩;have G:=Lh (D.out.to b);have M:=Lh (H.out.Ab b id);have R:decide ((0:Int)<(n:Int))=true:=by rw[decide_eq_true_iff];omega
 clear b;go_wp2;refine y.out _ _ ⟨I.out _ G.out,M.out⟩ fun a=>?_
 clear y N;refine hq 10 22 a ?_;refine hq 11 23 a ?_;refine hq 12 24 a ?_;refine hq 13 4 a ?_;refine zw ?_;clear a;go_wp2;go_ret;exact⟨rfl,G.out⟩
end

section
variable {W W' w:Bc}
theorem bX (c:Ca) (d:Addr) (k nb:Nat) (i b s ch:Int) (w:Bc) (l:0<=i) (m:i<=2) (h:1<=b) (j:b<=40) (q:0<=s) (r:s<=39) (o:ch=16385+50*(41*i+b)+s) (p:c.kind≠3) :
  Calls Tryz.prog 142 #[zP nb,.agg (Cu c (some d) k),zU ch] w (Rt (.bool false) (Au w)):=by
 have n:Cu c (some d) k=#[zI c.kind,zU c.Aq,.string c.Ad,.slice (some d) c.Bl.length k,zI c.BX,zI c.till,zI c.AO]:=rfl;have f:Hid (Au w (w.alloc (.cells (Cu c (some d) k) 31))):=Lh ((Aa _ w).alloc _);have e:Hid (AX (w.alloc (.cells (Cu c (some d) k) 31)) w.heap.size 31 (Cu c (some d) k)):=Lh (AX.new w _ _);have x:=Lh fun W=>Rq i b s W l m h j q r ch o
 rw[n] at f e ⊢;have y:(c.kind==3)=false:=by simpa using p
 clear n p l m h j q r o;go_in;go_upto_region 1 with(fail)
 generalize w.alloc (.cells #[zI c.kind,zU c.Aq,.string c.Ad,.slice (some d) c.Bl.length k,zI c.BX,zI c.till,zI c.AO] 31)=t at e f ⊢;generalize w.heap.size=v at e ⊢;go_upto_region 2 with(go_at_call 180;refine(x.out _).mono ?_;rintro z A ⟨rfl,rfl⟩)
 have u:Cl t v 0 (zI c.kind):=e.out.cell 0;refine GZ (fun W=>Cl W v 0 (zI c.kind)) u fun a=>?_
 have g:=Lh f.out.drew;clear u;generalize t.drew=B at g a ⊢;refine hq 0 14 a ?_;refine hq 1 15 a ?_;refine hq 2 16 a ?_;refine hq 3 17 a ?_;refine hq 4 18 a ?_;refine hq 5 19 a ?_;refine hq 6 20 a ?_;refine hsA 7 21 a ?_;refine hsA 8 22 a ?_;refine hsA 9 23 a ?_;refine hsA 10 24 a ?_;refine hsA 11 25 a ?_;refine hsA 12 26 a ?_;refine hq 13 27 a ?_;refine hq 14 28 a ?_;refine hsA 15 29 a ?_;refine hsA 16 30 a ?_;refine hsA 17 31 a ?_;refine hsA 18 32 a ?_;refine hq 19 33 a ?_;refine hq 20 34 a ?_;refine hsA 21 35 a ?_;refine hsA 22 36 a ?_;refine hsA 23 37 a ?_;refine hsA 24 38 a ?_;refine hsA 25 39 a ?_;refine hsA 26 40 a ?_;refine hsA 27 41 a ?_;refine hsA 28 42 a ?_;refine hsA 29 43 a ?_;refine hsA 30 44 a ?_;refine hsA 31 45 a ?_;refine hsA 32 46 a ?_;refine hsA 33 47 a ?_;refine hsA 34 48 a ?_;refine hsA 35 49 a ?_;refine hsA 36 50 a ?_;refine hq 37 51 a ?_;refine hq 38 6 a ?_;refine zw ?_;clear a;go_wp2;go_ret;exact⟨rfl,g.out⟩
theorem Yi (c:Ca) (f:Addr) (k nb:Nat) (i b s ch boot num:Int) (w:Bc) (C:0<=i) (D:i<=2) (A:1<=b) (B:b<=40) (O:0<=s) (P:s<=39) (H:ch=16385+50*(41*i+b)+s) (I:c.kind=3) (M:c.Ad=C8 [ch]) (L:c.Aq=8292+50*i+b) (K:c.AO=3*boot+num)
  (F:Cl w nb 9 (zI boot)) (J:Cl w nb 3 (zI num)) (E:nb<w.heap.size) (ae:0<=boot) (af:boot<=1000) (ag:0<=num) (ah:num<=2) (N:Ey ch) :
  Calls Tryz.prog 142 #[zP nb,.agg (Cu c (some f) k),zU ch] w (Rt (.bool true) (Au w)):=by
 have G:Cu c (some f) k=#[zI c.kind,zU c.Aq,.string c.Ad,.slice (some f) c.Bl.length k,zI c.BX,zI c.till,zI c.AO]:=rfl;have l:Hid (Au w (w.alloc (.cells (Cu c (some f) k) 31))):=Lh ((Aa _ w).alloc _);have d:Hid (AX (w.alloc (.cells (Cu c (some f) k) 31)) w.heap.size 31 (Cu c (some f) k)):=Lh (AX.new w _ _);have T:=Lh fun W=>Rq i b s W C D A B O P ch H
 rw[G] at l d ⊢;have g:=Lh fun W (e:Au w W)=>Bf ((e.cell (p:=zA nb 9) E id).trans F) ((e.cell (p:=zA nb 3) E id).trans J)
 have S:Hid (∀ (W:Bc) (t k:Nat),AX W t 25 #[zU ch]->Calls Tryz.prog 91 #[zS t 0 1 k] W (Rt (.string c.Ad) (Au W))):=Lh fun W t k X=>by rw[M];exact KW [ch] rfl rfl (by simp) (fun x hx=>by rw[Ai.1 hx];exact N) W X
 have Y:(c.kind==3)=true:=by simpa using I
 have Z:(c.Ad.toList==c.Ad.toList)=true:=by simp
 have aa:(c.Aq==8292+50*i+b)=true:=by simpa using L
 have ac:IntKind.i64.wrap (3*boot)=3*boot:=by rw[IntKind.wrap_i64];omega
 have ad:IntKind.i64.wrap (3*boot+num)=3*boot+num:=by rw[IntKind.wrap_i64];omega
 have ab:(c.AO==3*boot+num)=true:=by simpa using K
 clear G I C D A B O P H M L K F J N;go_in;go_upto_region 1 with(fail)
 generalize w.alloc (.cells #[zI c.kind,zU c.Aq,.string c.Ad,.slice (some f) c.Bl.length k,zI c.BX,zI c.till,zI c.AO] 31)=Q at d l ⊢;generalize w.heap.size=j at d ⊢;go_upto_region 2 with(go_at_call 180;refine(T.out _).mono ?_;rintro V ai ⟨rfl,rfl⟩)
 have R:Cl Q j 0 (zI c.kind):=d.out.cell 0;have u:=g.out _ l.out;refine GZ (fun W=>Cl W j 0 (zI c.kind)/\Cl W j 1 (zU c.Aq)/\Cl W j 2 (.string c.Ad)/\Cl W j 6 (zI c.AO)/\Cl W nb 9 (zI boot)/\Cl W nb 3 (zI num)) ⟨R,d.out.cell 1,d.out.cell 2,d.out.cell 6,u.1,u.2⟩ fun a=>?_
 have y:=Lh l.out.drew;have z:=Lh d.out.drew;clear R u;generalize Q.drew=n at y z a ⊢;refine hq 0 14 a ?_;refine hq 1 15 a ?_;refine hq 2 16 a ?_;refine hq 3 17 a ?_;refine hq 4 18 a ?_;refine hq 5 19 a ?_;refine hq 6 20 a ?_;refine hq 7 21 a ?_;refine hq 8 22 a ?_;refine hq 9 23 a ?_;have al:Au n (n.alloc (.cells #[zU ch] 25)):=(Aa _ n).alloc _;have U:=Lh (AX.new n 25 #[zU ch]);have o:=Lh (y.out.to al);have h:=Lh (z.out.Ab al id);clear al;refine Gg 10 fun r e=>?_
 go_simp;refine e.out _ _ ⟨h.out.cell 0,h.out.cell 1,h.out.cell 2,h.out.cell 6,(g.out _ o.out).1,(g.out _ o.out).2⟩ fun a=>?_
 clear e r;refine Gg 11 fun r e=>?_
 go_simp;refine(S.out _ _ _ U.out).mono ?_;rintro V aj ⟨rfl,v⟩;have q:=Lh (o.out.to v);have m:=Lh (h.out.Ab v id);clear v;go_wp2;refine e.out _ _ ⟨m.out.cell 0,m.out.cell 1,m.out.cell 2,m.out.cell 6,(g.out _ q.out).1,(g.out _ q.out).2⟩ fun a=>?_
 clear e r;refine hq 12 26 a ?_;refine hq 13 27 a ?_;refine hq 14 28 a ?_;refine hq 15 29 a ?_;refine hq 16 30 a ?_;refine hq 17 31 a ?_;refine hq 18 32 a ?_;refine hq 19 33 a ?_;refine hq 20 34 a ?_;refine hq 21 35 a ?_;refine hq 22 36 a ?_;refine hq 23 37 a ?_;refine hq 24 38 a ?_;refine hq 25 39 a ?_;refine hq 26 40 a ?_;refine hq 27 41 a ?_;refine hq 28 42 a ?_;refine hq 29 43 a ?_;refine hq 30 44 a ?_;refine hq 31 45 a ?_;refine hq 32 46 a ?_;refine hq 33 47 a ?_;refine hq 34 48 a ?_;refine hq 35 49 a ?_;refine hq 36 50 a ?_;refine hq 37 51 a ?_;refine hq 38 6 a ?_;refine zw ?_;clear a;go_wp2;go_ret;exact⟨rfl,q.out⟩
end

section
variable {w:Bc} {base t mb nb:Nat} {room:Int} {E:List EH} {G:List Int}
theorem RL (a:EO w base t mb room E G) (g:E.length<=100000) (h:Cl w nb 1 (zP t)) :
  Calls Tryz.prog 16 #[zP nb] w fun e w'=>∃ A c,e= .returned (.slice A E.length c)/\Au w w':=by
 have d:=Lh (Xn a g);clear a;go_in;go_wp2_with (go_at_call 40;refine d.out.mono ?_;rintro e i ⟨A,c,rfl,_,b⟩;have f:=Lh b;clear b);go_ret;exact⟨A,c,rfl,f.out⟩
end

section
variable {W w:Bc} {F:Nat->Prop} {base s nb kb:Nat} {room:Int} {Z:List Ed}
def Lm (L:List Ca) (M:List Ca):List Ca:=M.foldl Jw L
end

structure Eb where
 P:Bc->(Nat->Prop)->Prop
 tab:Bool
 Ab:∀ {W W':Bc} {F S:Nat->Prop},P W F->Am S W W'->(∀ k,F k->¬S k)->P W' F
 core:∀ {W:Bc} {F:Nat->Prop} (b:Nat),P W F->P W fun k=>F k/\k<W.heap.size/\(tab=true∨¬G5 b W k)
 wider:∀ {W:Bc} {F G:Nat->Prop},P W F->(∀ k,F k->G k)->P W G
structure ED (cs:List Eb) (W:Bc) (o:Nat->Nat):Prop where
 p:∀ j (c:Eb),cs[j]?= some c->c.P W fun k=>o k=j+1
 z:∀ k,W.heap.size<=k->o k=0
def Pg (x:Option Nat) (o:Nat->Nat) (W:Bc) (k:Nat):Prop:=o k=0/\∀ b,x=some b->¬G5 b W k
structure Ew (x:Option Nat) (o o':Nat->Nat) (W W':Bc):Prop where
 t:Am (fun k=>¬Pg x o W k) W W'
 z:∀ k,k<W.heap.size->Pg x o W k->o' k=0
def FE (x:Option Nat) (cs:List Eb) (o:Nat->Nat) (W W':Bc):Prop:=∃ o',ED cs W' o'/\Ew x o o' W W'
section
variable {x:Option Nat} {b:Nat} {cs:List Eb} {o o1 o':Nat->Nat} {W W1 W':Bc}
theorem ED.AB (a:ED cs W o) (c:Au W W'):ED cs W' o :=
 ⟨fun f b d=>b.Ab (a.p f b d) c fun _ _ a=>a,fun g e=>a.z g (AV c.size e)⟩
theorem G5.same {k:Nat} {S:Nat->Prop} (f:Am S W W1) (hk:k<W.heap.size) (e:¬S k) (c:G5 b W1 k):G5 b W k:=by
 obtain⟨d,g,cs,a,ht⟩:=c;refine⟨d,g,cs,?_,ht⟩;unfold AX at a ⊢;rw[<- f.block k hk e];exact a
theorem Am.back {S:Nat->Prop} {d b c:Bc} (f:Au d b) (a:Am S b c):Am S d c:=(f.mono fun _ _ a=>a.elim).AJ a fun _ _ e=>e
theorem Ew.refl:Ew x o o W W:=⟨Aa _ _,fun _ _ a=>a.1⟩
theorem Ew.free (a:Ew x o o1 W W1) {k:Nat} (hk:k<W.heap.size) (hF:Pg x o W k):Pg x o1 W1 k :=
 ⟨a.z k hk hF,fun b d c=>hF.2 b d (c.same a.t hk fun e=>e hF)⟩
theorem Ew.trans (a:Ew x o o1 W W1) (k:Ew x o1 o' W1 W'):Ew x o o' W W' :=
 ⟨a.t.AJ k.t fun c b d hF=>d (a.free b hF),fun c b hF=>k.z c (Bj b a.t.size) (a.free b hF)⟩
theorem Ew.AB (a:Ew x o o1 W W1) (b:Au W1 W'):Ew x o o1 W W':=⟨a.t.AJ b fun _ _ a=>a.elim,a.z⟩
theorem Ew.after (a:Au W W1) (f:Ew x o o1 W1 W'):Ew x o o1 W W' :=
 ⟨(Am.back a f.t).mono fun g c h hF=>h ⟨hF.1,fun b e d=>hF.2 b e (d.same a c id)⟩,fun g c hF=>f.z g (Bj c a.size) ⟨hF.1,fun b e d=>hF.2 b e (d.same a c id)⟩⟩
theorem Ew.weak (a:Ew none o o1 W W1):Ew x o o1 W W1:=⟨a.t.mono fun b _ d hF=>d ⟨hF.1,fun _ a=>by cases a⟩,fun b c hF=>a.z b c ⟨hF.1,fun _ a=>by cases a⟩⟩
theorem FE.AB (b:FE x cs o W W1) (a:Au W1 W'):FE x cs o W W':=by
 obtain⟨o',c,d⟩:=b;exact⟨o',c.AB a,d.AB a⟩
theorem FE.after (b:Au W W1) (a:FE x cs o W1 W'):FE x cs o W W':=by
 obtain⟨o',c,d⟩:=a;exact⟨o',c,d.after b⟩
theorem FE.trans {cs':List Eb} (a:Ew x o o1 W W1) (k:FE x cs' o1 W1 W'):FE x cs' o W W':=by
 obtain⟨o',b,c⟩:=k;exact⟨o',b,a.trans c⟩
theorem ED.pR (f:ED cs W o) (i:Nat) (d:Eb) (g:Am (fun k=>o k=i+1) W W') (n:d.P W' fun k=>o k=i+1∨(W.heap.size<=k/\k<W'.heap.size)):∃ o',ED (cs.set i d) W' o'/\Ew x o o' W W'/\∀ k,k<W.heap.size->o' k=o k:=by
 refine⟨fun k=>if k<W.heap.size then o k else if k<W'.heap.size then i+1 else 0,⟨fun l e b=>?_,fun k a=>?_⟩,⟨g.mono fun k _ c hF=>by have:=hF.1;omega,fun k a hF=>?_⟩,fun k a=>?_⟩
 ·rw[Eh] at b;by_cases j:i=l
  ·subst j;rw[AQ rfl] at b;split at b
   ·cases b;refine d.wider n fun k c=>?_
    rcases c with c|⟨m,h⟩
    ·have a:k<W.heap.size:=by
      rcases Co k W.heap.size with a|a
      ·exact a
      ·have:=f.z k a;omega
     rw[AQ a];exact c
    ·rw[Bg (by omega),AQ h]
   ·cases b
  ·rw[Bg j] at b;refine e.wider (e.Ab (f.p l e b) g fun k m h=>by omega) fun k c=>?_
   have a:k<W.heap.size:=by
    rcases Co k W.heap.size with a|a
    ·exact a
    ·have:=f.z k a;omega
   rw[AQ a];exact c
 ·have:=g.size;rw[Bg (by omega),Bg (by omega)]
 ·show(if k<W.heap.size then o k else _)=0;rw[AQ a];exact hF.1
 ·show(if k<W.heap.size then o k else _)=o k;rw[AQ a]
theorem ED.upd (b:ED cs W o) (i:Nat) (a:Eb) (f:Am (fun k=>o k=i+1) W W') (e:a.P W' fun k=>o k=i+1∨(W.heap.size<=k/\k<W'.heap.size)):FE x (cs.set i a) o W W':=by
 obtain⟨o',c,d,_⟩:=b.pR (x:=x) i a f e;exact⟨o',c,d⟩
theorem ED.pQ (p:ED cs W o) (i r:Nat) (l:Eb) (v:∀ j c,cs[j]?= some c->j≠i->c.tab=false) (x:o r=i+1) (m:Am (Io b r W) W W') (t:l.P W' fun k=>o k=i+1∨G5 b W k∨(W.heap.size<=k/\k<W'.heap.size)):FE (some b) (cs.set i l) o W W':=by
 classical
 refine⟨fun k=>if k<W.heap.size then(if G5 b W k then i+1 else o k) else if k<W'.heap.size then i+1 else 0,⟨fun j c f=>?_,fun k d=>?_⟩,m.mono fun k _ a hF=>?_,fun k d hF=>?_⟩
 ·rw[Eh] at f;by_cases n:i=j
  ·subst n;rw[AQ rfl] at f;split at f
   ·cases f;refine l.wider t fun k a=>?_
    rcases a with a|a|⟨g,e⟩
    ·have d:k<W.heap.size:=by
      rcases Co k W.heap.size with d|d
      ·exact d
      ·have:=p.z k d;omega
     rw[AQ d];split<;>first|rfl|exact a
    ·have d:k<W.heap.size:=by obtain⟨_,y,cs,u,_⟩:=a;exact u.lt
     rw[AQ d,AQ a]
    ·rw[Bg (by omega),AQ e]
   ·cases f
  ·rw[Bg n] at f;have q:=v j c f fun a=>n a.symm
   have w:=c.core b (p.p j c f);refine c.wider (c.Ab w m fun k g e=>?_) fun k a=>?_
   ·rcases e with e|⟨e,s⟩
    ·subst e;have:=g.1;omega
    ·rcases g.2.2 with a|a
     ·rw[q] at a;cases a
     ·exact a ⟨e,s⟩
   ·rcases a.2.2 with h|h
    ·rw[q] at h;cases h
    ·rw[AQ a.2.1,Bg h];exact a.1
 ·have:=m.size;rw[Bg (by omega),Bg (by omega)]
 ·rcases a with a|⟨g,e⟩
  ·have:=hF.1;rw[a] at this;omega
  ·exact hF.2 b rfl ⟨g,e⟩
 ·show(if k<W.heap.size then _ else _)=0;rw[AQ d,Bg (hF.2 b rfl)];exact hF.1
structure Loc (o:Nat->Nat) (W:Bc) (g:Nat) (t:TypeId) (cs:Array Value):Prop where
 BR:AX W g t cs
 z:o g=0
 n1:t≠168
 n2:t≠226
theorem Loc.free {g:Nat} {t:TypeId} {vs:Array Value} (a:Loc o W g t vs):Pg x o W g:=⟨a.z,fun _ _=>G5.not a.BR a.n1 a.n2⟩
theorem Loc.stay {g:Nat} {t:TypeId} {vs:Array Value} (a:Loc o W g t vs) (b:Ew x o o' W W'):Loc o' W' g t vs :=
 ⟨a.BR.Ab b.t fun c=>c a.free,b.z g a.BR.lt a.free,a.n1,a.n2⟩
theorem Loc.AB {g:Nat} {t:TypeId} {vs:Array Value} (a:Loc o W g t vs) (b:Au W W'):Loc o W' g t vs:=⟨a.BR.Ab b id,a.z,a.n1,a.n2⟩
theorem Loc.new (a:ED cs W o) {t:TypeId} (vs:Array Value) (b:t≠168) (c:t≠226):Loc o (W.alloc (.cells vs t)) W.heap.size t vs :=
 ⟨AX.new W t vs,a.z _ (AY _),b,c⟩
end

section
namespace Led
open Go.Maps (Keyed)
def Ii (w:Bc) (P:Program) (k:TypeId) (b:Value) (xs:List Value):Prop :=
 (b= .map none/\xs=[])∨∃ a,b= .map (some a)/\Cw w P k a (xs.map fun c=>(c,.agg #[]))
theorem L8 {P:Program} {k t e:TypeId} {w:Bc} {h a:Value} {xs:List Value} {r:Bool} (i:Ii w P k h xs) (b:Keyed P k) (ht:P.underlying t=some (.map k e))
  (g:∀ w,(zeroValue e).run P w= .ok (.agg #[]) w) (d:MO P k a) (c:r=true↔a∈xs) :
  (Instr.lookup t h a true).run P w= .ok (.tuple #[.agg #[],.bool r]) w:=by
 rcases i with⟨rfl,rfl⟩|⟨m,rfl,f⟩
 ·obtain⟨n,j⟩:=d;have:r=false:=by cases r with|false=>rfl|true=>simp at c
  subst this;exact Maps.look_nil true b ht (g w) j
 ·cases r with
  |true=>exact f.Nl b ht (Bp.2 ⟨a,c.1 rfl,rfl⟩) true
  |false =>
   refine f.OQ b ht (g w) d (fun o l=>?_) true;obtain⟨p,hx,rfl⟩:=Bp.1 l;intro e;subst e;exact Bv (c.2 hx) (by simp)
theorem Ii.Ab {S:Nat->Prop} {P:Program} {k:TypeId} {w w':Bc} {c:Value} {xs:List Value} (a:Ii w P k c xs) (d:Am S w w') (e:∀ b,c= .map (some b)->¬S b):Ii w' P k c xs:=by
 rcases a with a|⟨b,rfl,f⟩
 ·exact .inl a
 ·exact .inr ⟨b,rfl,f.Ab d (e b rfl)⟩
theorem Ii.alloc {P:Program} {k:TypeId} {w:Bc} {b:Value} {xs:List Value} (a:Ii w P k b xs) (c:Obj):Ii (w.alloc c) P k b xs :=
 a.Ab ((T0 w).alloc c) fun _ _ a=>a
theorem Ii.drew {P:Program} {k:TypeId} {w:Bc} {a:Value} {xs:List Value} (b:Ii w P k a xs):Ii w.drew P k a xs:=b
theorem laid:laidOutB Tryz.prog=true:=by kernel_rfl
theorem KJ (w:Bc):(zeroValue 220).run Tryz.prog w= .ok (.agg #[]) w:=by kernel_rfl
theorem OP:Keyed Tryz.prog 215:=Keyed.of_law (deep_law_laid laid (m:=4) (by omega) (of_decide_eq_true (by kernel_rfl)) (by kernel_rfl) (by kernel_rfl))
theorem La (p e:Nat) (d:Value) (xs:List Value) (a:Int) (s:BB) (w:Bc) (r:Bool) (f:Cl w p (e+1) d)
  (c:Ii w Tryz.prog 215 d xs) (b:r=true↔(.agg #[zU a,.string s]:Value)∈xs) (hk:MO Tryz.prog 215 (.agg #[zU a,.string s])) :
  Calls Tryz.prog 154 #[.pointer (some (zA p e)),.agg #[zU a,.string s]] w (Rt (.bool r) (Au w)):=by
 have g:=World.block_lt_of_cell? w _ f;have h:=L8 ((c.alloc (.cells #[zU a,.string s] 215)).drew) OP Tryz.underlying118 KJ hk b;have i:=L8 (((c.alloc (.cells #[zU a,.string s] 215)).alloc (.cells #[] 220)).drew) OP Tryz.underlying118 KJ hk b;clear b hk c;go_in;go_wp2;go_region
 all_goals go_wp2
 all_goals go_ret
 all_goals exact⟨rfl,((((Aa _ w).alloc _).alloc _)).drew⟩
theorem Nj:Keyed Tryz.prog 223:=Keyed.of_law (deep_law_laid laid (m:=4) (by omega) (of_decide_eq_true (by kernel_rfl)) (by kernel_rfl) (by kernel_rfl))
theorem KD (p f:Nat) (e:Value) (xs:List Value) (a b sq:Int) (s:BB) (y:Int) (w:Bc) (r:Bool) (g:Cl w p (f+1) e)
  (d:Ii w Tryz.prog 223 e xs) (c:r=true↔(.agg #[zU a,zI b,zI sq,.string s,zI y]:Value)∈xs) (hk:MO Tryz.prog 223 (.agg #[zU a,zI b,zI sq,.string s,zI y])) :
  Calls Tryz.prog 162 #[.pointer (some (zA p f)),.agg #[zU a,zI b,zI sq,.string s,zI y]] w (Rt (.bool r) (Au w)):=by
 have h:=World.block_lt_of_cell? w _ g;have i:=L8 ((d.alloc (.cells #[zU a,zI b,zI sq,.string s,zI y] 223)).drew) Nj Tryz.underlying122 KJ hk c;have j:=L8 (((d.alloc (.cells #[zU a,zI b,zI sq,.string s,zI y] 223)).alloc (.cells #[] 220)).drew) Nj Tryz.underlying122 KJ hk c;clear c hk d;go_in;go_wp2;go_region
 all_goals go_wp2
 all_goals go_ret
 all_goals exact⟨rfl,((((Aa _ w).alloc _).alloc _)).drew⟩
theorem JS:Keyed Tryz.prog 25:=Go.Maps.int_keyed Tryz.underlying25
theorem Zy (p e:Nat) (d:Value) (xs:List Value) (a:Int) (w:Bc) (r:Bool) (f:Cl w p (e+1) d)
  (c:Ii w Tryz.prog 25 d xs) (b:r=true↔(zU a:Value)∈xs) (hk:MO Tryz.prog 25 (zU a)) :
  Calls Tryz.prog 113 #[.pointer (some (zA p e)),zU a] w (Rt (.bool r) (Au w)):=by
 have g:=World.block_lt_of_cell? w _ f;have h:=L8 c JS Tryz.underlying125 KJ hk b;clear b hk c;go_in;go_wp2
 all_goals go_wp2
 all_goals go_ret
 all_goals exact⟨rfl,(Aa _ w).alloc _⟩
end Led
end
end Go.Proofs.YtcjcndnjpedniaaGreat
