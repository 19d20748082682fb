/- A part of the proof of TopUsers. -/
import Derived.Shelf.SortM.Plain
import Derived.Shelf.SortM.SortNone
import Derived.Sort.OwnSortedInts
import Derived.Test.YtcjcndnjpedniaaGreatB19
namespace Go.Proofs.YtcjcndnjpedniaaGreat
set_option linter.all false
set_option maxRecDepth 100000
set_option maxHeartbeats 8000000
open Go.RowKit
section
open Go.RowKit Go.Shelf Go.Sort Go.Proofs
def Tryz.Y9:Go.Shelf.Ren:=⟨fun|5=>175|8=>207|7=>206|19=>244|20=>245|10=>235|11=>236|12=>237|13=>238|14=>239|15=>240|16=>241|17=>242|18=>243|30=>263|31=>264|32=>265|33=>266|34=>267|35=>268|40=>277|a=>a,fun|23=>205|25=>3|3=>3|32=>181|22=>205|0=>0|44=>360|46=>180|4=>4|36=>353|35=>352|41=>285|5=>5|9=>9|53=>386|57=>390|63=>403|64=>404|a=>a,fun a=>a⟩
theorem Tryz.lD:SlLaysM.n5 Tryz.prog Tryz.Y9 where
 mixed:=by kernel_rfl
 f5:=⟨Tryz.f175.name,by decide,Tryz.func175.trans (Bu some (by kernel_rfl))⟩
 f7:=⟨Tryz.f206.name,by decide,Tryz.func206.trans (Bu some (by kernel_rfl))⟩
 f8:=Tryz.func207.trans (Bu some (by kernel_rfl))
 f10:=⟨Tryz.f235.name,by decide,Tryz.func235.trans (Bu some (by kernel_rfl))⟩
 f11:=⟨Tryz.f236.name,by decide,Tryz.func236.trans (Bu some (by kernel_rfl))⟩
 f12:=⟨Tryz.f237.name,by decide,Tryz.func237.trans (Bu some (by kernel_rfl))⟩
 f13:=⟨Tryz.f238.name,by decide,Tryz.func238.trans (Bu some (by kernel_rfl))⟩
 f14:=⟨Tryz.f239.name,by decide,Tryz.func239.trans (Bu some (by kernel_rfl))⟩
 f15:=⟨Tryz.f240.name,by decide,Tryz.func240.trans (Bu some (by kernel_rfl))⟩
 f16:=⟨Tryz.f241.name,by decide,Tryz.func241.trans (Bu some (by kernel_rfl))⟩
 f17:=⟨Tryz.f242.name,by decide,Tryz.func242.trans (Bu some (by kernel_rfl))⟩
 f18:=⟨Tryz.f243.name,by decide,Tryz.func243.trans (Bu some (by kernel_rfl))⟩
 f19:=Tryz.func244.trans (Bu some (by kernel_rfl))
 f20:=Tryz.func245.trans (Bu some (by kernel_rfl))
 f30:=⟨Tryz.f263.name,by decide,Tryz.func263.trans (Bu some (by kernel_rfl))⟩
 f31:=Tryz.func264.trans (Bu some (by kernel_rfl))
 f32:=Tryz.func265.trans (Bu some (by kernel_rfl))
 f33:=⟨Tryz.f266.name,by decide,Tryz.func266.trans (Bu some (by kernel_rfl))⟩
 f34:=⟨Tryz.f267.name,by decide,Tryz.func267.trans (Bu some (by kernel_rfl))⟩
 f35:=⟨Tryz.f268.name,by decide,Tryz.func268.trans (Bu some (by kernel_rfl))⟩
 f40:=⟨Tryz.f277.name,by decide,Tryz.func277.trans (Bu some (by kernel_rfl))⟩
 t0:=Tryz.underlying0
 a0:=Tryz.isAgg0
 z0:=Tryz.sizeOf0
 v0:=Tryz.zeroValue0
 t3:=Tryz.underlying3
 a3:=Tryz.isAgg3
 z3:=Tryz.sizeOf3
 v3:=Tryz.zeroValue3
 t4:=Tryz.underlying4
 a4:=Tryz.isAgg4
 z4:=Tryz.sizeOf4
 v4:=Tryz.zeroValue4
 t5:=Tryz.underlying5
 a5:=Tryz.isAgg5
 z5:=Tryz.sizeOf5
 v5:=Tryz.zeroValue5
 t9:=Tryz.underlying9
 a9:=Tryz.isAgg9
 z9:=Tryz.sizeOf9
 v9:=Tryz.zeroValue9
 t22:=Tryz.underlying205
 a22:=Tryz.isAgg205
 z22:=Tryz.sizeOf205
 v22:=Tryz.zeroValue205
 t23:=Tryz.underlying205
 a23:=Tryz.isAgg205
 z23:=Tryz.sizeOf205
 v23:=Tryz.zeroValue205
 t25:=Tryz.underlying3
 a25:=Tryz.isAgg3
 z25:=Tryz.sizeOf3
 v25:=Tryz.zeroValue3
 t32:=Tryz.underlying181
 a32:=Tryz.isAgg181
 z32:=Tryz.sizeOf181
 v32:=Tryz.zeroValue181
 t35:=Tryz.underlying352
 a35:=Tryz.isAgg352
 z35:=Tryz.sizeOf352
 v35:=Tryz.zeroValue352
 t36:=Tryz.underlying353
 a36:=Tryz.isAgg353
 z36:=Tryz.sizeOf353
 v36:=Tryz.zeroValue353
 t41:=Tryz.underlying285
 a41:=Tryz.isAgg285
 z41:=Tryz.sizeOf285
 v41:=Tryz.zeroValue285
 t44:=Tryz.underlying360
 a44:=Tryz.isAgg360
 z44:=Tryz.sizeOf360
 v44:=Tryz.zeroValue360
 t46:=Tryz.underlying180
 a46:=Tryz.isAgg180
 z46:=Tryz.sizeOf180
 v46:=Tryz.zeroValue180
 t53:=Tryz.underlying386
 a53:=Tryz.isAgg386
 z53:=Tryz.sizeOf386
 v53:=Tryz.zeroValue386
 t57:=Tryz.underlying390
 a57:=Tryz.isAgg390
 z57:=Tryz.sizeOf390
 v57:=Tryz.zeroValue390
 t63:=Tryz.underlying403
 a63:=Tryz.isAgg403
 z63:=Tryz.sizeOf403
 v63:=Tryz.zeroValue403
 t64:=Tryz.underlying404
 a64:=Tryz.isAgg404
 z64:=Tryz.sizeOf404
 v64:=Tryz.zeroValue404
section
variable {w:Bc}
def lH (w:Bc) (base:Nat) (v:Value) (n:Nat) (l:List Int) (e:Ending) (w':Bc):Prop :=
 e= .returned (.tuple #[])/\∃ b:List Int,(∀ a,a∈b↔a∈l)/\w'.ownsRow base 3 1 v n (b.map iV)/\Am (fun a=>v.ownBlock=some a) w w'
theorem Oh {base n:Nat} {v:Value} {l:List Int} (e:w.ownsRow base 3 1 v n (l.map iV)) (z:n<=1000000):Calls Tryz.prog 175 #[v] w (lH w base v n l):=by
 have g:l.length=n:=by simpa using e.1
 rcases e.2 with⟨rfl,i⟩|⟨f,h,y,rfl,k,d,q,o,r,ht⟩
 ·subst i;obtain rfl:l=[]:=EI.1 g;refine(AnyM.slices_Sort_int_none Tryz.lD none 0 w).mono fun a t b=>?_
  obtain⟨c,rfl⟩:=b;exact⟨c,[],fun _=>Iff.rfl,World.ownsRow_nil _ _ _ _,Aa _ _⟩
 ·have m:=Et d;subst g;have j:Holds (Value.int .i64) w f 0 l.toArray:=holds_of_blockI d (by rw[Fy] at ht;exact ht);refine(AnyM.slices_Sort_int Tryz.lD f 0 h l w j m (by omega)).mono fun a t b=>?_
  obtain⟨c,A,B,rfl⟩:=b;have p:(l.mergeSort fun u x=>decide (u<=x)).length=l.length:=List.length_mergeSort ..;refine⟨c,_,fun s=>List.mem_mergeSort,ownsRow_sortedI p k d q o r,(Aa _ w).grown (grownBy_sortedI _) fun s a _=>a⟩
end
end
section
variable {W W' w:Bc} {base m:Nat} {ws:List BB} {s v:BB} {k:Int} {T:List St} {P:List (List Int)}
def pU (ws:List BB) (s:BB) (place:Nat) (k:Int):Prop:=∃ (a:Nat) (v:BB),k=(a:Int)/\ws[a]?= some v/\CX v=true/\FI s v place=true
theorem TK {place j:Nat} (g:∀ v∈ws,CX v=true->AU v∈P) (h:j<=((AU s).drop place).length) (f:∀ q,j<=q->q<((AU s).drop place).length->((AU s).drop place).take (q+1)∉P) :
  (∃ q,q<j/\k∈R9 ws ws.length (((AU s).drop place).take (q+1)))↔pU ws s place k:=by
 unfold pU FI;generalize (AU s).drop place=p at h f ⊢;constructor
 ·rintro⟨q,hq,i⟩;obtain⟨e,_,rfl,v,a,b,c⟩:=SG.1 i;refine⟨e,v,rfl,a,b,?_⟩;rw[Bb,c,BA,EL (by omega)]
 ·rintro⟨e,v,rfl,a,b,c⟩;have d:=of_decide_eq_true c;have n:1<=(AU v).length:=by
   have:=(GR.1 b).2.1;rw[Eo] at this;omega
  have l:=Bu List.length d;rw[BA] at l;have m:=Bn a;refine⟨(AU v).length-1,?_,?_⟩
  ·refine Decidable.byContradiction fun o=>f ((AU v).length-1) (by omega) (by omega) ?_
   rw[show(AU v).length-1+1=(AU v).length by omega,d];exact g v m b
  ·rw[show(AU v).length-1+1=(AU v).length by omega,d];exact SG.2 ⟨e,(AC.1 a).1,rfl,v,a,b,rfl⟩
theorem cB (i:∀ p f,p++[f]∈P->p∈P):∀ {l:List Int} {q:Nat},l∈P->l.take q∈P:=by
 intro l q;generalize b:l.length=c
 induction c generalizing l with
 |zero =>
  intro a;obtain rfl:=EI.1 b;simpa using a
 |succ c j =>
  intro a;rcases Co q (c+1) with hq|hq
  ·have e:l≠[]:=fun g=>by rw[g] at b;cases b
   have d:l.dropLast++[l.getLast e]=l:=List.dropLast_concat_getLast e;rw[<- d] at a;have h:=j (l:=l.dropLast) (by rw[List.length_dropLast];omega) (i _ _ a);rw[<- d,Fx (by rw[List.length_dropLast];omega)];exact h
  ·rw[Bt (by omega)];exact a
theorem lU:∀ x:Int,∀ u∈(iV x).cells.toList,u.oneCell'=true:=fun x u b=>by
 have a:u=iV x:=by simpa [iV,Value.cells] using b
 rw[a];rfl
def nT (w:Bc) (ws:List BB) (s:BB) (place:Nat) (e:Ending) (w':Bc):Prop :=
 ∃ b a c,∃ d:List Int,e= .returned (.slice b a c)/\w'.ownsRow w.heap.size 3 1 (.slice b a c) a (d.map iV)/\(∀ k,k∈d↔pU ws s place k)/\a<=8*ws.length/\Au w w'
theorem aC (place:Nat) (w:Bc) (ag:Mh w base m ws) (cn:ws.length<=1000) (du:s.size<=16) (dt:place<=8) :
  Calls Tryz.prog 304 #[zP m,.string s,zI place] w (nT w ws s place):=by
 obtain⟨q,ae,T,P,ag,cg,cj,ch⟩:=ag;have co:s.size<=maxLen:=by unfold maxLen;omega
 have F:=Lh fun W=>F5 s W co
 have db:=BG s;have bu:Hid (Cc s=((AU s).length:Int)):=Lh Eo;obtain⟨dh,dc,dd,de,df⟩:=info_parts Nf;have H:=Lh ag;have B:=Lh cg;have bp:=Lh cj;have dk:=Lh ch;have Z:=Lh cn;have bs:Hid ((AU s).length<=8):=Lh (by omega);clear ag cg cj db ch cn;rw[bu.out] at F;clear bu;obtain⟨p,bf⟩:∃ p,p=(AU s).length:=⟨_,rfl⟩
 rw[<- bf] at F bs;have bt:=Lh bf;clear bf;obtain⟨n,hx⟩:∃ n,n=(AU s).drop place:=⟨_,rfl⟩
 have ax:Hid (n.length=p-place):=Lh (by rw[hx,Cb,bt.out]);have C:=Lh hx;clear hx;go_in;go_wp2;go_loopg [7,8,9] (10+p) fun gk v cz i wr=>∃ (b g:Nat) (A:List Int),b+gk=10+p/\Hid (b<=n.length)/\i=zI ((place+b:Nat):Int)/\cz=zI g/\Hid (P[g]?= some (n.take b))/\Hid (wr.ownsRow w.heap.size 3 1 v A.length (A.map iV))/\Hid (∀ k,k∈A↔∃ d,d<b/\k∈R9 ws ws.length (n.take (d+1)))/\Hid (A.length<=b*ws.length)/\Hid (Au w wr)
 case atStart=>exact⟨0,0,[],by omega,Lh (by omega),rfl,rfl,Lh (by rw[Ei];exact B.out.root),Lh (World.ownsRow_nil _ _ _ _),Lh (by simp),Lh (by simp),Lh (Aa _ _)⟩
 case round =>
  obtain⟨b,g,A,dp,Y,rfl,rfl,aq,bv,am,aa,D⟩:=hrel;have dq:(b:Int)<=8:=by have:=Y.out;have:=ax.out;have:=bs.out;omega
  have dr:(place:Int)<=8:=by omega
  have bq:Hid (((place+b:Nat):Int)+1=((place+(b+1):Nat):Int)):=Lh (by omega);have br:Hid (place+b<p->b<n.length):=Lh fun c=>by have:=ax.out;omega
  have ca:Hid (¬place+b<p->b=n.length):=Lh fun c=>by have:=ax.out;have:=Y.out;omega
  obtain⟨f,bh⟩:∃ f,f=place+b:=⟨_,rfl⟩
  rw[<- bh] at bq br ca ⊢;have ds:(f:Int)<=16:=by omega
  have cu:=Lh bh;obtain⟨u,bm⟩:∃ u,u=A.length:=⟨_,rfl⟩
  have ab:Hid (wr.ownsRow w.heap.size 3 1 u7 u (A.map iV)):=Lh (by rw[bm];exact bv.out);have dx:u<=8000:=by have:=aa.out;have:=Z.out;have L:b<=8:=(by omega);have:=Nat.mul_le_mul L Z.out;omega
  have av:=Lh bm;obtain⟨X,af,bk⟩:=BD ab.out;have dl:=Lh bk;clear bh bm;clear bv;by_cases bd:f<p
  ·have be:=br.out bd;have cm:f<(AU s).length:=by rw[<- bt.out];exact bd
   have ck:=GM cm;have al:=Lh fun W=>Ms s (f:Int) W co ⟨by omega,by omega⟩
   have bj:0<=G6 s (f:Int)/\G6 s (f:Int)<=65535:=IJ _ _;have ac:Hid (n.take (b+1)=n.take b++[G6 s (f:Int)]):=Lh (by rw[AP be,ck];congr 2;simp only[C.out,List.getElem_drop,cu.out]);clear ck cm;generalize G6 s (f:Int)=z at al ac bj;have cs:=Lh be;obtain⟨e,ai⟩:=B.out.get aq.out;have ad:=Lh ai;have cp:g<T.length:=(AC.1 ai).1;obtain⟨t,bi⟩:∃ t,t=T.length:=⟨_,rfl⟩
   have dv:(g:Int)<(t:Int):=by omega
   have cw:=Lh cp;have au:=Lh bi;have cy:=Lh bj;have bc:=H.out.AB D.out;have cd:Cl wr m 0 (zS q 0 t ae):=by rw[bi];exact bc.BR.cell 0
   have da:Cl wr q (g*2) (.map e.mb):=(bc.row.cellAt _ (by omega)).trans (IP ai).1;have di:(f:Int)<(p:Int):=by omega
   have j:∀ W,Au w W->Cl W m 0 (zS q 0 t ae)/\Cl W q (g*2) (.map e.mb)/\(Instr.lookup 458 (.map e.mb) (zU z) true).run Tryz.prog W= .ok (.tuple #[L9 ((e.nx z).getD 0),.bool (e.nx z).isSome]) W:=fun W Q=>by
    have bb:=H.out.AB Q;exact⟨by rw[au.out];exact bb.BR.cell 0,(bb.row.cellAt _ (by have:=cw.out;omega)).trans (IP ad.out).1,(bb.nx g e ad.out).look cy.out⟩
   replace j:=Lh j;subst bk;clear ai cp bi bj bc cd da be;rcases ah:e.nx z with _|l
   ·have J:=Lh ah;clear ah;rw[J.out] at j;simp only[Option.getD_none,Gn] at j;go_upto_region 6 with(go_at_call 133;refine(F.out _).mono ?_;rintro E cq ⟨rfl,rfl⟩)
    refine GZ (fun W=>Cl W m 0 (zS q 0 t ae)/\Cl W q (g*2) (.map e.mb)/\(Instr.lookup 458 (.map e.mb) (zU z) true).run Tryz.prog W= .ok (.tuple #[L9 0,.bool false]) W) (j.out _ D.out.drew) fun a=>?_
    have G:=Lh D.out.drew;have ea:=Lh ab.out.drew;generalize wr.drew=U at G ea a ⊢;refine hq 0 20 a ?_;refine hq 1 21 a ?_;refine hq 2 22 a ?_;refine hq 3 23 a ?_;refine hq 4 24 a ?_;refine hq 5 25 a ?_;refine hq 6 26 a ?_;refine hq 7 27 a ?_;refine hq 8 28 a ?_;refine hq 9 29 a ?_;refine Gg 10 fun K M=>?_
    go_simp;refine(al.out _).mono ?_;rintro E h ⟨rfl,d,hq⟩;have o:Au U h:=(by subst hq;exact(Aa _ U).drewN d)
    clear hq;have dz:=Lh (G.out.to o);have y:=Lh (Aj ea.out o fun _ _ c=>c);clear o;go_wp2;refine M.out _ _ (j.out _ dz.out) fun a=>?_
    clear M K;refine hq 11 31 (hx:=fun W Q=>Jo (.tmp 27) (.tmp 30) rfl rfl rfl Q.2.2) a ?_;refine hq 12 19 a ?_;refine hq 13 32 a ?_;refine hq 14 33 a ?_;refine hq 15 10 a ?_;refine hq 16 11 a ?_;refine zw ?_;go_wp2_with (go_at_call 175;refine(Oh y.out (by omega)).mono ?_;rintro E bo ⟨rfl,bn,R,N,O⟩;have ao:=Lh R;have ap:=Lh N;have an:=Lh (dz.out.AJ O fun k o c=>Bv (BQ y.out c) (by omega));clear R N O);go_ret;refine⟨X,u,af,bn,rfl,ap.out,fun k=>?_,(by have:=aa.out;have:=av.out;have L:b<=8:=(by omega);have:=Fj ws.length L;omega),an.out⟩;rw[ao.out k,am.out k];have:=TK (s:=s) (place:=place) (k:=k) (j:=b) bp.out (by rw[<- C.out];exact Y.out) fun d az r ba=>by
     rw[<- C.out] at ba;have cf:=cB B.out.pre (q:=b+1) ba;rw[List.take_take,EL (by omega),ac.out] at cf;obtain⟨l,ht⟩:=Dh.1 cf;have:=(B.out.nx g e _ ad.out aq.out z l).2 ht;rw[J.out] at this;cases this
    rw[<- C.out] at this;exact this
   ·have J:=Lh ah;clear ah;have ar:=Lh ((B.out.nx g e _ ad.out aq.out z l).1 J.out);obtain⟨x,S⟩:=B.out.get ar.out;have cb:=Lh S;have dw:(l:Int)<(t:Int):=by have:=(AC.1 S).1;have:=au.out;omega
    have cx:Hid (l<t):=Lh (by omega);have bz:Hid (x.wh=R9 ws ws.length (n.take (b+1))):=Lh (by rw[ac.out];exact B.out.wh l x _ S ar.out);have aw:Hid (x.wh.length<=ws.length):=Lh (by rw[bz.out];exact SF);obtain⟨aj,bg⟩:∃ aj,aj=x.wh.length:=⟨_,rfl⟩
    have I:=Lh bg;obtain⟨ak,ce,bl⟩:=BD (H.out.wh l x S);rw[<- bg] at bl;have bx:=Lh bl;clear S bl bg;rw[J.out] at j;simp only[Option.getD_some,Option.isSome_some,L9] at j;go_upto_region 6 with(go_at_call 133;refine(F.out _).mono ?_;rintro E cq ⟨rfl,rfl⟩)
    refine GZ (fun W=>Cl W m 0 (zS q 0 t ae)/\Cl W q (g*2) (.map e.mb)/\(Instr.lookup 458 (.map e.mb) (zU z) true).run Tryz.prog W= .ok (.tuple #[zI (l:Int),.bool true]) W) (j.out _ D.out.drew) fun a=>?_
    have G:=Lh D.out.drew;have ea:=Lh ab.out.drew;generalize wr.drew=U at G ea a ⊢;refine hq 0 20 a ?_;refine hq 1 21 a ?_;refine hq 2 22 a ?_;refine hq 3 23 a ?_;refine hq 4 24 a ?_;refine hq 5 25 a ?_;refine hq 6 26 a ?_;refine hq 7 27 a ?_;refine hq 8 28 a ?_;refine hq 9 29 a ?_;refine Gg 10 fun K M=>?_
    go_simp;refine(al.out _).mono ?_;rintro E h ⟨rfl,d,hq⟩;have o:Au U h:=(by subst hq;exact(Aa _ U).drewN d)
    clear hq;have dz:=Lh (G.out.to o);have y:=Lh (Aj ea.out o fun _ _ c=>c);clear o;go_wp2;refine M.out _ _ (j.out _ dz.out) fun a=>?_
    clear M K;refine hq 11 31 (hx:=fun W Q=>Jo (.tmp 27) (.tmp 30) rfl rfl rfl Q.2.2) a ?_;refine hq 12 19 a ?_;refine hq 13 32 a ?_;refine hq 14 33 a ?_;refine hq 15 10 a ?_;refine hq 16 11 a ?_;refine zw ?_;go_upto_region 9 with(fail)
    have cd:=(j.out _ dz.out).1;have dm:Cl h q (l*2+1) (.slice ak aj ce):=((H.out.AB dz.out).row.cellAt _ (by have:=cx.out;have:=au.out;omega)).trans ((IP cb.out).2.trans (by rw[bx.out]));have cv:Hid (Ay iV h h.heap.size 1 ak x.wh):=Lh (Ay.Ea (V:=iV) (fun _=>rfl) (by have:=(H.out.AB dz.out).wh l x cb.out;rw[bx.out,I.out] at this;exact this));go_wp2_with (at_builtin;(refine ER rfl (V:=iV) (.tmp 37) (.tmp 45) 205 rfl w.heap.size 3 dh _ 1 8 Tryz.underlying205 dc dd de df rfl (by omega) (fun _=>rfl) lU (.slice X u af) u _ rfl y.out h.heap.size ak aj ce x.wh rfl I.out.symm cv.out (by have:=aw.out;have:=Z.out;have:=I.out;unfold maxLen;omega) (by have:=aw.out;have:=Z.out;have:=I.out;omega) dz.out.size ?_);intro dy bo cc cl;have ci:Am (fun k=>(Value.slice X u af).ownBlock=some k) h bo:=(Aa _ h).grown cl fun k c _=>c;have bw:=Lh cc;have ct:=Lh (dz.out.AJ ci fun k o c=>Bv (BQ y.out c) (by omega));clear cc cl ci;obtain⟨dj,dn,rfl⟩:=BD bw.out);rw[bq.out];go_roundg (gk-1)
    case measure=>omega
    case rel =>
     refine⟨b+1,l,A++x.wh,by omega,Lh (by have:=cs.out;omega),rfl,rfl,Lh (by rw[ac.out];exact ar.out),Lh ?_,Lh fun k=>?_,Lh (by rw[Ap,EK];have:=aa.out;have:=aw.out;omega),ct⟩
     ·rw[Ap,Bw,<- av.out,<- I.out];have:=bw.out;rw[I8 (V:=iV) fun _=>rfl] at this;exact this
     ·rw[Bd,am.out k,bz.out];constructor
      ·rintro(⟨d,az,r⟩|r)
       ·exact⟨d,by omega,r⟩
       ·exact⟨b,by omega,r⟩
      ·rintro⟨d,az,r⟩;rcases Co d b with c|c
       ·exact .inl ⟨d,c,r⟩
       ·obtain rfl:d=b:=by omega
        exact .inr r
  ·have di:¬(f:Int)<(p:Int):=by omega
   have cr:=Lh (ca.out bd);subst bk;have y:=ab;have dz:=D;obtain⟨h,rfl⟩:∃ h,h=wr:=⟨_,rfl⟩
   go_wp2_with (first
    |(go_at_call 133;refine(F.out _).mono ?_;rintro E cq ⟨rfl,rfl⟩)
    |(go_at_call 175;refine(Oh y.out (by omega)).mono ?_;rintro E bo ⟨rfl,bn,R,N,O⟩;have ao:=Lh R;have ap:=Lh N;have an:=Lh (dz.out.AJ O fun k o c=>Bv (BQ y.out c) (by omega));clear R N O))
   go_ret;refine⟨X,u,af,bn,rfl,ap.out,fun k=>?_,(by have:=aa.out;have:=av.out;have L:b<=8:=(by omega);have:=Fj ws.length L;omega),an.out⟩;rw[ao.out k,am.out k];have:=TK (s:=s) (place:=place) (k:=k) (j:=b) bp.out (by rw[<- C.out];exact Y.out) fun d az r ba=>by rw[<- C.out] at r;have:=cr.out;omega
   rw[<- C.out] at this;exact this
end

section
variable {W W' w:Bc} {base m:Nat} {ws:List BB} {s v:BB} {k:Int}
def TL (a:Int × Int):Value:=.agg #[zI a.1,zI a.2]
theorem aG:(Tryz.prog.info? 452).map (fun i=>(i.zero,i.size,i.bytes))=some (some (.agg #[zO,zO]),2,16):=by kernel_rfl
def kR (ws:List BB) (s:BB) (j:Nat) (c:List (Int × Int)):Prop:=∀ a,a∈c↔∃ b:Nat,b<j/\a.1=(b:Int)/\pU ws s b a.2
def nX (w:Bc) (ws:List BB) (s:BB) (e:Ending) (w':Bc):Prop :=
 ∃ c a d b,e= .returned (.slice c a d)/\w'.ownsRow w.heap.size 452 2 (.slice c a d) a (BN TL b)/\b.length=a/\kR ws s (AU s).length b/\a<=100000/\Au w w'
theorem bB (w:Bc) (ah:Mh w base m ws) (am:ws.length<=1000) (aq:s.size<=16) :
  Calls Tryz.prog 302 #[zP m,.string s] w (nX w ws s):=by
 have bo:s.size<=maxLen:=by unfold maxLen;omega
 have r:=Lh fun W=>F5 s W bo
 have bg:=BG s;have X:Hid (Cc s=((AU s).length:Int)):=Lh Eo;obtain⟨bu,bl,br,bs,bt⟩:=info_parts aG;have ax:=Lh ah;have cm:=Lh am;have y:Hid ((AU s).length<=8):=Lh (by omega);have bb:=Lh aq;clear ah bg am aq;rw[X.out] at r;clear X;obtain⟨h,L⟩:∃ h,h=(AU s).length:=⟨_,rfl⟩
 rw[<- L] at r y;have aw:=Lh L;clear L;go_in;go_wp2_with (go_at_call 133;refine(r.out _).mono ?_;rintro F ci ⟨rfl,rfl⟩);go_loopg [5,11] h fun gk v O wr=>∃ (a:Nat) (d:List (Int × Int)),a+gk=h/\O=zI a/\Hid (wr.ownsRow w.heap.size 452 2 v d.length (BN TL d))/\Hid (kR ws s a d)/\Hid (d.length<=a*(8*ws.length))/\Hid (Au w wr)
 case atStart=>exact⟨0,[],by omega,rfl,Lh (World.ownsRow_nil _ _ _ _),Lh fun e=>by simp,Lh (by simp),Lh (Aa _ _)⟩
 case round =>
  obtain⟨a,d,bm,rfl,A,U,z,u⟩:=hrel;by_cases cd:a<h
  ·have bv:(a:Int)<(h:Int):=by omega
   have al:a<=8:=by have:=y.out;omega
   obtain⟨i,K⟩:∃ i,i=d.length:=⟨_,rfl⟩
   have T:=Lh K;have aa:Hid (wr.ownsRow w.heap.size 452 2 u5 i (BN TL d)):=Lh (by rw[K];exact A.out);obtain⟨R,ad,N⟩:=BD aa.out;subst N;obtain⟨G,bk⟩:∃ G,G=gk:=⟨_,rfl⟩
   rw[<- bk] at bm;clear K;go_upto_region 6 with(go_at_call 304;refine(aC (s:=s) a _ (ax.out.AB u.out) cm.out bb.out al).mono ?_;rintro F cj ⟨Q,cl,be,c,rfl,ai,an,ao,f⟩;have B:=Lh ai;have Y:=Lh an;have Z:=Lh ao;have ay:=Lh (Aj aa.out f fun _ _ e=>e);have ar:=Lh (u.out.to f);clear ai an ao f)
   have ce:cl<=8000:=by have:=Z.out;have:=cm.out;omega
   have cf:i<=70000:=by have:=z.out;have:=T.out;have:=Nat.mul_le_mul al (show 8*ws.length<=8000 by have:=cm.out;omega);omega
   have j:Hid (c.length=cl):=Lh (by simpa using B.out.1);obtain⟨E,aj⟩:∃ E,E=wr.heap.size:=⟨_,rfl⟩
   rw[<- aj] at B;clear aj;go_loopg [5,19] cl fun bf v O P=>∃ ck:Nat,ck+bf=cl/\O=zI ck/\Hid (P.ownsRow w.heap.size 452 2 v (i+ck) (BN TL (d++(c.take ck).map fun k=>((a:Int),k))))/\Hid (P.ownsRow E 3 1 (.slice Q cl be) cl (c.map iV))/\Hid (Au w P)
   case atStart=>exact⟨0,by omega,rfl,Lh (by simpa using ay.out),B,ar⟩
   case round =>
    obtain⟨ck,hq,rfl,D,C,x⟩:=hrel;by_cases ch:ck<cl
    ·have bp:(ck:Int)<(cl:Int):=by omega
     have ap:ck<c.length:=by have:=j.out;omega
     obtain⟨k,f⟩:∃ k,k=c[ck]:=⟨_,rfl⟩
     have ab:Ay iV wr wr.heap.size 1 Q c:=Ay.Ea (V:=iV) (fun _=>rfl) (by rw[j.out];exact C.out);obtain⟨b,o,rfl,bi,J⟩:=Ay.BV (V:=iV) (fun _=>rfl) ab ap;rw[<- f] at J;have bz:Cl wr b (o+ck) (zI k):=J;have bc:Hid (c.take (ck+1)=c.take ck++[k]):=Lh (by rw[AP ap,f]);obtain⟨l,M⟩:∃ e,e=i+ck:=⟨_,rfl⟩
     have ba:=Lh M;have cg:l<=78000:=by omega
     have p:Hid (wr.ownsRow w.heap.size 452 2 u5 l (BN TL (d++(c.take ck).map fun k=>((a:Int),k)))):=Lh (by rw[M];exact D.out);obtain⟨S,ae,bq⟩:=BD p.out;subst bq;clear ab f J bi M D;go_wp2_with (at_builtin;go_must (refine wpList_append_lies _ rfl (.tmp 23) (.tmp 27) 449 rfl w.heap.size 452 bu _ 2 16 Tryz.underlying449 bl br bs bt rfl (by omega) (.slice S l ae) l _ rfl (p.out.alloc _) (zA wr.heap.size 0) 1 1 [zI a,zI k] rfl rfl (World.news_of_block (cs:=#[zI a,zI k]) (t:=452) (fr:=(0,0)) (heap_alloc_new wr _)) (by simp[Value.oneCell']) (by omega) (by unfold maxLen;omega) (by omega) (by have:=x.out.size;simp;omega) (wr.heap.size+1) (by simp) ?_);intro cc ca bx ac ak bh bn;have I:Am (fun k=>(Value.slice S l ae).ownBlock=some k) wr bx:=((Aa _ wr).alloc _).grown ak fun k e _=>e;have az:=Lh ac;have av:=Lh (Aj C.out I fun g bj F=>Ex C.out p.out (by decide) bj F);have au:=Lh (x.out.AJ I fun k f e=>Bv (BQ p.out e) (by omega));clear ac ak bh bn I);go_roundg (gk-1)
     case measure=>omega
     case rel =>
      refine⟨ck+1,by omega,by go_num,Lh ?_,av,au⟩;rw[bc.out,Bw,<- BJ,Ez,<- Nat.add_assoc,<- ba.out];exact az.out
    ·have bp:¬(ck:Int)<(cl:Int):=by omega
     obtain rfl:ck=cl:=by omega
     go_wp2;go_roundg (G-1)
     case measure=>omega
     case rel =>
      have hx:c.take ck=c:=Bt (by have:=j.out;omega);refine⟨a+1,d++c.map fun k=>((a:Int),k),by omega,by go_num,Lh ?_,Lh fun e=>?_,Lh ?_,x⟩
      ·have:=D.out;rw[hx] at this;rw[Ap,Be,j.out,<- T.out];exact this
      ·rw[Bd,U.out e];constructor
       ·rintro(⟨n,H,q⟩|H)
        ·exact⟨n,by omega,q⟩
        ·obtain⟨k,f,rfl⟩:=Bp.1 H;exact⟨a,by omega,rfl,(Y.out k).1 f⟩
       ·rintro⟨n,H,q,af⟩;rcases Co n a with ag|ag
        ·exact .inl ⟨n,ag,q,af⟩
        ·obtain rfl:n=a:=by omega
         exact .inr (Bp.2 ⟨e.2,(Y.out _).2 af,by rw[<- q]⟩)
      ·rw[Ap,Be,j.out,EK];have:=z.out;have:=Z.out;omega
  ·have bv:¬(a:Int)<(h:Int):=by omega
   obtain rfl:a=h:=by omega
   obtain⟨R,ad,N⟩:=BD A.out;subst N;go_wp2;go_ret;refine⟨R,_,ad,d,rfl,A.out,rfl,by rw[<- aw.out];exact U.out,?_,u.out⟩;have:=z.out;have:=Nat.mul_le_mul y.out (show 8*ws.length<=8000 by have:=cm.out;omega);omega
end

section
variable {W W' w:Bc} {base m:Nat} {k:Int}
theorem Py (r:Dj) (w:Bc) (i:r.BX.size<=1000000) (j:r.Kn.size<=1000000) :
  Calls Tryz.prog 295 #[FH r] w (Rt (.bool (EA r)) (Au w)):=by
 obtain⟨a,b⟩:=r;have d:=Lh fun W=>Jk a W i
 have g:=Lh fun W=>Jk b W j
 have n:Hid (∀ W,Calls Tryz.prog 133 #[.string a] W (Rt (zI (Cc a)) fun l=>∃ k,l=W.drewN k)):=Lh fun W=>(F5 a W (by unfold maxLen;dsimp only at i;omega)).mono fun _ _ f=>⟨f.1,0,f.2.symm⟩
 have o:Hid (∀ W,Calls Tryz.prog 133 #[.string b] W (Rt (zI (Cc b)) fun l=>∃ k,l=W.drewN k)):=Lh fun W=>(F5 b W (by unfold maxLen;dsimp only at j;omega)).mono fun _ _ f=>⟨f.1,0,f.2.symm⟩
 have m:EA ⟨a,b⟩=(CX a&&(CX b&&decide (Cc b<=Cc a))):=rfl;have c:=Lh m;have h:=Lh ((T0 w).alloc (.cells #[.string a,.string b] 381));show Calls Tryz.prog 295 #[.agg #[.string a,.string b]] w _;generalize EA ⟨a,b⟩=p at c ⊢;clear m i j;rcases e:CX a with _|_
 ·rw[e] at d c;go_in;go_wp2_with fail;go_quiet ((go_at_call 103;with_reducible exact Calls.quiet_of (d.out _)));go_wp2;go_ret;exact⟨by rw[c.out];rfl,h.out.drewN _⟩
 ·rcases ht:CX b with _|_
  ·rw[e] at d;rw[ht] at g;rw[e,ht] at c;go_in;go_wp2_with fail;go_quiet ((go_at_call 103;first|with_reducible exact Calls.quiet_of (d.out _)|with_reducible exact Calls.quiet_of (g.out _)));go_wp2;go_ret;exact⟨by rw[c.out];rfl,h.out.drewN _⟩
  ·rw[e] at d;rw[ht] at g;rw[e,ht] at c;go_in;go_wp2_with fail;go_quiet (first|(go_at_call 103;first|with_reducible exact Calls.quiet_of (d.out _)|with_reducible exact Calls.quiet_of (g.out _))|(go_at_call 133;first|with_reducible exact Calls.quiet_of (n.out _)|with_reducible exact Calls.quiet_of (o.out _)));go_wp2;go_ret;exact⟨by rw[c.out];rfl,h.out.drewN _⟩
end

section
variable {W W' w:Bc} {base m:Nat} {k:Int}
def Q7 (R:List Dj):List BB:=R.map fun a=>if EA a then a.BX else⟨#[]⟩
def fD (R:List Dj) (j:Nat):List BB:=(Q7 R).take j++List.replicate (R.length-j) ⟨#[]⟩
theorem kC {R:List Dj} {j:Nat} (b:j<R.length):(fD R j).set j (Q7 R)[j]! = fD R (j+1)/\(fD R j)[j]?= some ⟨#[]⟩:=by
 have c:(Q7 R).length=R.length:=by simp[Q7]
 have a:((Q7 R).take j).length=j:=by rw[BA];omega
 unfold fD;constructor
 ·rw[List.set_append_right _ _ (by omega),a,FT,show R.length-j=(R.length-(j+1))+1 by omega,List.replicate_succ,Bq,AP (by omega),getElem!_pos _ j (by omega),BJ];rfl
 ·rw[Cq (by omega),a,FT,show R.length-j=(R.length-(j+1))+1 by omega,List.replicate_succ];rfl
theorem j6 {R:List Dj}:fD R R.length=Q7 R:=by
 unfold fD;rw[FT,List.replicate_zero,Dc,Bt (by simp[Q7])]
theorem kD {R:List Dj} {j:Nat} (a:j<R.length):(Q7 R)[j]! = if EA R[j] then R[j].BX else⟨#[]⟩:=by
 rw[getElem!_pos _ j (by simpa [Q7] using a)];simp[Q7]
theorem set_self {c : Type} {l:List c} {j:Nat} {a:c} (b:l[j]?= some a):l.set j a=l:=by
 apply Gv;intro d;rw[Eh];split
 ·subst_vars
  rw[b,AQ (AC.1 b).1]
 ·rfl
theorem KQ:(Tryz.prog.info? 381).map (·.size)=some 2:=by kernel_rfl
def Zg (w:Bc) (R:List Dj) (e:Ending) (w':Bc):Prop:=∃ m base,e= .returned (zP m)/\Mh w' base m (Q7 R)/\w.heap.size<=base/\Au w w'
theorem TZ (A:Option Addr) (c:Nat) (R:List Dj) (w:Bc) (v:R.length<=400) (C:∀ r∈R,r.BX.size<=16/\r.Kn.size<=16) (g:Ay FH w w.heap.size 2 A R) :
  Calls Tryz.prog 297 #[.slice A R.length c] w (Zg w R):=by
 obtain⟨ba,aq,aw,ax,ay⟩:=info_parts Iz;obtain⟨ad,ab,X,Y⟩:=run_makeSlice_full (P:=Tryz.prog) w w.heap.size 28 27 ba (zE) 1 Tryz.underlying28 aq aw ax .i64 .i64 R.length (by omega) (by rw[ay];omega) (by unfold maxLen;omega) (AY _);have H:Hid (ad.ownsRow w.heap.size 27 1 (zS w.heap.size 0 R.length R.length) R.length ((fD R 0).map Value.string)):=by
  have ap:(fD R 0).map Value.string=(madeCells (Value.string ⟨#[]⟩).cells (R.length*1)).toList:=by
   unfold fD;rw[Ei,BU,Nat.sub_zero,List.map_replicate,Fy];exact(toList_madeCells_one _ _).symm
  rw[ap];exact Lh X
 have ag:Hid (Au w ad):=Lh ((T0 w).grown Y fun k t=>by cases t);have aj:=Lh g;have S:=Lh C;obtain⟨b,O⟩:∃ b,b=R.length:=⟨_,rfl⟩
 have o:=Lh O;have Q:=Lh v;rw[<- O] at ab H ⊢;clear g C v O X Y;go_in;go_wp2_with fail;clear ab;obtain⟨h,N⟩:∃ h,h=w.heap.size:=⟨_,rfl⟩
 rw[<- N] at H ⊢;have ah:=Lh N;clear N;go_loopg [11] b fun gk i wr=>∃ a:Nat,a+gk=b/\i=zI a/\Hid (wr.ownsRow h 27 1 (zS h 0 b b) b ((fD R a).map Value.string))/\Hid (Au w wr)
 case atStart=>exact⟨0,by omega,rfl,H,ag⟩
 case round =>
  obtain⟨a,bc,rfl,l,e⟩:=hrel;by_cases bd:a<b
  ·have u:a<R.length:=by have:=o.out;omega
   obtain⟨z,D,rfl,M,B⟩:=aj.out a u;obtain⟨r,g⟩:∃ r,r=R[a]:=⟨_,rfl⟩
   rw[<- g] at B;have I:=(e.out.cell (p:=zA z (D+a*2)) M id).trans (B 0 (by omega));have J:=(e.out.cell (p:=zA z (D+a*2+1)) M id).trans (B 1 (by omega));have au:=S.out r (by rw[g];exact Br u);have y:=Lh (kD u);have x:=Lh (kC u);rw[<- g] at y;have T:=fun W=>Py r W (by omega) (by omega)
   obtain⟨d,bl⟩:=r;have F:Hid (∀ W,Calls Tryz.prog 295 #[.agg #[.string d,.string bl]] W (Rt (.bool (EA ⟨d,bl⟩)) (Au W))):=Lh T;clear T;replace I:Cl wr z (D+a*2) (.string d):=I;replace J:Cl wr z (D+a*2+1) (.string bl):=J;have bb:(a:Int)<(b:Int):=by omega
   have be:(b:Int)<=400:=by have:=Q.out;have:=o.out;omega
   have aa:h<wr.heap.size:=Gd l.out rfl;have am:=Lh aa;clear aa;clear B g au M u;go_upto_region 5 with(fail)
   have bm:Hid (AX (wr.alloc (.cells #[.string d,.string bl] 381)) wr.heap.size 381 #[.string d,.string bl]):=Lh (AX.new wr _ _);replace l:=Lh (l.out.alloc (.cells #[.string d,.string bl] 381));replace e:=Lh (e.out.alloc (.cells #[.string d,.string bl] 381));obtain⟨ae,ac⟩:∃ ae,ae=wr.heap.size:=⟨_,rfl⟩
   generalize wr.alloc (.cells #[.string d,.string bl] 381)=bj at bm l e ⊢;rw[<- ac] at bm am ⊢;clear ac I J;generalize ao:EA ⟨d,bl⟩=an at F y;clear ao;rcases an with _|_
   ·go_wp2_with (first
     |(refine AA rfl (.tmp 5) rfl rfl bm.out Tryz.underlying381 rfl KQ ?_)
     |(go_at_call 295;refine(F.out _).mono ?_;rintro t E ⟨rfl,f⟩;have q:=Lh (Aj l.out f fun _ _ K=>K);have n:=Lh (e.out.to f);clear f))
    go_roundg (gk-1)
    case measure=>omega
    case rel =>
     refine⟨a+1,by omega,by go_num,?_,n⟩;have j:=x.out.1;rw[y.out] at j;simp only[CJ,if_false] at j;rw[set_self x.out.2] at j;rw[<- j];exact q
   ·go_wp2_with (first
     |(refine AA rfl (.tmp 5) rfl rfl bm.out Tryz.underlying381 rfl KQ ?_)
     |(go_at_call 295;refine(F.out _).mono ?_;rintro t E ⟨rfl,f⟩;have q:=Lh (Aj l.out f fun _ _ K=>K);have n:=Lh (e.out.to f);have al:=Lh (bm.out.Ab f id);have bk:=al.out.cell 0;have bg:Cl E h a (zE):=(q.out.cellAt a (by omega)).trans (by rw[Ch,x.out.2];rfl);have bh:=q.out.frozenAt a;clear f))
    have av:=q.out.stored a (.string d);go_roundg (gk-1)
    case measure=>omega
    case rel =>
     refine⟨a+1,by omega,by go_num,Lh ?_,Lh (n.out.AJ ((Aa (fun k=>k=h) E).setCell (p:=zA h a) (fun _=>rfl) _) fun k f t=>by have:=ah.out;omega)⟩;have j:=x.out.1;rw[y.out] at j;simp only[if_true] at j;rw[<- j,List.map_set];exact av.1
  ·have bb:¬(a:Int)<(b:Int):=by omega
   obtain rfl:a=b:=by omega
   have af:Hid (fD R a=Q7 R):=Lh (by rw[o.out];exact j6);have ak:Hid (a=(Q7 R).length):=Lh (by rw[o.out];simp[Q7]);have G:Calls Tryz.prog 300 #[zS h 0 a a] wr (kK wr wr (Q7 R)):=by
    have L:=l.out;rw[af.out] at L;have v:=ak.out;have ar:a<=400:=by have:=o.out;have:=Q.out;omega
    generalize a=bf at L v ar;subst v;exact bG (ws:=Q7 R) _ _ _ (by omega) (fun s C=>by obtain⟨r,g,rfl⟩:=Bp.1 C;(try dsimp only);split;(exact(S.out r g).1);(exact EN _)) (Ay.Ea (V:=Value.string) (fun _=>rfl) L)
   replace G:=Lh G;go_wp2_with (go_at_call 300;refine G.out.mono ?_;rintro t E ⟨m,rfl,U,Z⟩;have ai:=Lh U;have n:=Lh (e.out.to Z);clear U Z);go_ret;exact⟨m,_,rfl,ai.out,e.out.size,n.out⟩
end

section
variable {W W' w:Bc} {base r:Nat} {L:List BB}
structure EC (W:Bc) (base r:Nat) (L:List BB) (vw vf:Value) (pb:Nat) (f:BB->Option Nat):Prop where
 ge:base<=r
 BR:AX W r 433 #[vw,vf,.map (some pb)]
 ws:W.ownsRow base 27 1 vw L.length (L.map Value.string)
 fs:∃ xs,W.ownsRow base 443 3 vf L.length xs
 gp:base<=pb
 mp:GI W 27 pb Value.string L9 Mk f
 mem:∀ v,(f v).isSome=true↔v∈L
theorem EC.AB {e d:Value} {c:Nat} {f:BB->Option Nat} (a:EC W base r L e d c f) (b:Au W W'):EC W' base r L e d c f:=by
 obtain⟨g,hx⟩:=a.fs;exact⟨a.ge,a.BR.Ab b id,Aj a.ws b fun _ _ a=>a,⟨g,Aj hx b fun _ _ a=>a⟩,a.gp,a.mp.AB b,a.mem⟩
def KG (L:List BB) (v:BB):List BB:=if Jy v L then L else L++[v]
def SV (r a:Nat) (c b:Value) (k:Nat):Prop:=k=r∨k=a∨c.ownBlock=some k∨b.ownBlock=some k
def oI (w:Bc) (base r b:Nat) (f c:Value) (L:List BB) (v:BB) (e:Ending) (w':Bc):Prop :=
 e= .returned (.tuple #[])/\∃ g d h,EC w' base r (KG L v) g d b h/\(∀ a,g.ownBlock=some a->f.ownBlock=some a∨w.heap.size<=a)/\(∀ a,d.ownBlock=some a->c.ownBlock=some a∨w.heap.size<=a)/\Am (SV r b f c) w w'
theorem aK:(Tryz.prog.info? 443).map (fun i=>(i.zero,i.size,i.bytes))=some (some (.agg #[zO,zO,zO]),3,24):=by kernel_rfl
theorem XK:(Tryz.prog.info? 443).map (·.size)=some 3:=by kernel_rfl
theorem Qr {aq N:Value} {m:Nat} {f:BB->Option Nat} (v:BB) (s b c:Int) (w:Bc) (C:EC w base r L aq N m f) (ck:base<=w.heap.size) (eb:L.length<=10000) (dy:v.size<=1000000) :
  Calls Tryz.prog 298 #[zP r,.string v,.agg #[zI s,zI b,zI c]] w (oI w base r m aq N L v):=by
 have bf:Mk v:=by unfold Mk maxLen;omega
 have g:=Lh (C.AB ((Aa _ w).alloc (.cells #[zI s,zI b,zI c] 443)));have bk:=Lh ck;have G:Hid (Am (SV r m aq N) w (w.alloc (.cells #[zI s,zI b,zI c] 443))):=Lh ((Aa _ w).alloc _);have H:Hid (AX (w.alloc (.cells #[zI s,zI b,zI c] 443)) w.heap.size 443 #[zI s,zI b,zI c]):=Lh (AX.new w _ _);have bt:Hid (r≠w.heap.size):=Lh (by have:=C.BR.lt;omega);have bn:Hid (∀ j,N.ownBlock=some j->j<w.heap.size):=Lh fun j ea=>by obtain⟨ar,hx⟩:=C.fs;exact Gd hx ea
 have bs:Hid (m≠w.heap.size):=Lh (by have:=C.mp.lt;omega);obtain⟨d,an⟩:∃ d,d=L.length:=⟨_,rfl⟩
 have av:=Lh an;have dx:d<=10000:=by omega
 obtain⟨y,B,bh⟩:=BD C.ws;rw[<- an] at bh;have U:=Lh bh;obtain⟨ar,M⟩:=C.fs;obtain⟨x,A,be⟩:=BD M;rw[<- an] at be;have F:=Lh be;clear C ck eb an bh M be ar;go_in;go_upto_region 1 with(fail)
 obtain⟨Y,cq⟩:∃ Y,Y=w.heap.size:=⟨_,rfl⟩
 generalize w.alloc (.cells #[zI s,zI b,zI c] 443)=X at g G H ⊢;rw[<- cq] at H bt bs bn ⊢;clear cq;have ca:Cl X r 2 (.map (some m)):=g.out.BR.cell 2;rcases K:f v with _|t
 ·have aw:Hid (v∉L):=Lh fun h=>by have:=(g.out.mem v).2 h;rw[K] at this;cases this
  have ap:=g.out.mp.JI (T:=431) (e:=3) GV Tryz.underlying431 bf K (ND X) true;simp only[if_true] at ap;clear K;go_wp2_with fail;clear ap;have ah:Cl X r 0 (.slice y d B):=by rw[<- U.out];exact g.out.BR.cell 0
  refine EQ 10 (S:=fun W=>Cl W r 2 (.map (some m))/\Cl W r 0 (.slice y d B)) (by kernel_rfl) ⟨ca,ah⟩ fun e=>?_
  replace g:=Lh (g.out.AB (Aa _ X).drew);replace H:=Lh H.out.drew;replace G:=Lh G.out.drew;clear ah ca;generalize X.drew=dz at g H G e ⊢;refine zq 0 18 e ?_;refine zq 1 19 e ?_;refine zq 2 20 e ?_;refine zq 3 21 e ?_;refine zq 4 22 e ?_;refine zq 5 23 e ?_;refine zq 6 24 e ?_;refine zq 7 25 e ?_;refine zq 8 26 e ?_;refine zq 9 27 e ?_;obtain⟨o,cp,cd,J⟩:=g.out.mp.put (T:=431) (e:=3) GV Tryz.underlying431 bf d;simp only[L9] at cp;refine zl fun n k=>?_
  go_simp;refine k.out _ _ ?_;clear k n;refine zd ?_;clear cp e;have co:r≠m:=g.out.mp.Ee g.out.BR;have ai:=g.out.BR.Ab J co;have ac:=Lh cd;have bv:=Lh (H.out.Ab J fun a=>bs.out (show Y=m from a).symm);have R:Hid (o.ownsRow base 27 1 (.slice y d B) d (L.map Value.string)):=Lh (by have h:=Aj g.out.ws J (fun j ea a=>by obtain⟨l,eb,_⟩:=g.out.mp;exact eb.own_ne g.out.ws (by rw[ea,show j=m from a]));rw[U.out,<- av.out] at h;exact h);obtain⟨ar,M⟩:=g.out.fs;have ax:Hid (o.ownsRow base 443 3 (.slice x d A) d ar):=Lh (by have h:=Aj M J (fun j ea a=>by obtain⟨l,eb,_⟩:=g.out.mp;exact eb.own_ne M (by rw[ea,show j=m from a]));rw[F.out,<- av.out] at h;exact h);have ay:=Lh (G.out.AJ J fun i am a=>.inr (.inl a));have cy:Hid (base<=o.heap.size):=Lh (by have:=bk.out;have:=ay.out.size;omega);clear M co;have df:=ac.out.Ee ai;clear cd J;have ah:Cl o r 0 (.slice y d B):=by rw[<- U.out];exact ai.cell 0
  have aa:=Lh ai;clear ai df;obtain⟨dt,di,dq,dr,ds⟩:=info_parts Iz;obtain⟨du,dj,dm,dn,dp⟩:=info_parts aK;go_upto_region 5 with(at_builtin;go_must (refine wpList_append_lies _ rfl (.tmp 32) (.tmp 34) 28 rfl base 27 dt _ 1 16 Tryz.underlying28 di dq dr ds rfl (by omega) (.slice y d B) d _ rfl (R.out.alloc _) (zA o.heap.size 0) 1 1 [.string v] rfl rfl (World.news_of_block (cs:=#[.string v]) (t:=27) (fr:=(0,0)) (heap_alloc_new o _)) (by simp[Value.oneCell']) (by omega) (by unfold maxLen;omega) (by omega) (by have:=cy.out;simp;omega) (o.heap.size+1) (by simp) ?_);intro q z O bw cl ci dk;have bd:Am (fun i=>(Value.slice y d B).ownBlock=some i) o O:=((Aa _ o).alloc _).grown cl fun i h _=>h;have aj:=aa.out.Ab bd (fun a=>Ba R.out aa.out (by decide) a);have db:=aj.cell 0;have dc:=aj.frozen 0;have bl:=Lh aj;have bp:=Lh bw;have af:=Lh bd;have cv:Hid ((Value.slice y d B).ownBlock=some q∨o.heap.size<=q):=Lh (ci.imp id fun h=>by omega);have cz:Hid (w.heap.size<=o.heap.size):=Lh ay.out.size;clear bw cl ci dk bd aj)
  have I:Am (fun i=>i=r) O (O.setCell (zA r 0) (zS q 0 (d+1) z)):=(Aa (fun i=>i=r) O).setCell (p:=zA r 0) (fun _=>rfl) _;have cb:=bl.out.Dw 0 (zS q 0 (d+1) z);have ch:=(bv.out.Ab af.out fun a=>Ba R.out bv.out (by decide) a).Ab I (by have:=bt.out;omega);have cf:=Aj bp.out I fun j ea a=>Ba bp.out bl.out (by decide) (by rw[<- show j=r from a];exact ea)
  have ce:=(ac.out.Ab af.out fun a=>by obtain⟨l,eb,_⟩:=ac.out;exact eb.own_ne R.out a).Ab I fun a=>ac.out.Ee aa.out a.symm
  have cc:=Aj (Aj ax.out af.out fun j ea a=>Ex ax.out R.out (by decide) ea a) I fun j ea a=>Ba ax.out aa.out (by decide) (by rw[<- show j=r from a];exact ea)
  have cg:=(ay.out.AJ af.out fun i am a=>.inr (.inr (.inl (by rw[U.out];exact a)))).AJ I fun i am a=>.inl a
  have au:Hid (AX (O.setCell (zA r 0) (zS q 0 (d+1) z)) r 433 #[zS q 0 (d+1) z,N,.map (some m)]):=Lh cb;have ba:=Lh ch;have bq:=Lh cf;have bo:=Lh ce;have bm:=Lh cc;have bu:=Lh cg;clear cb ch cf ce cc cg I db dc ah;generalize O.setCell (zA r 0) (zS q 0 (d+1) z)=bj at au ba bq bo bm bu ⊢;have bz:Cl bj r 1 (.slice x d A):=by rw[<- F.out];exact au.out.cell 1
  refine EQ 10 (S:=fun W=>Cl W r 1 (.slice x d A)/\AX W Y 443 #[zI s,zI b,zI c]) (by kernel_rfl) ⟨bz,ba.out.drew⟩ fun e=>?_
  have E:=Lh au.out.drew;have bb:=Lh ba.out.drew;have ae:=Lh bq.out.drew;have Q:=Lh bm.out.drew;have ad:=Lh (bo.out.AB (Aa _ bj).drew);have ag:=Lh bu.out.drew;clear bz;generalize bj.drew=D at E bb ae Q ad ag e ⊢;refine zq 0 38 e ?_;refine zq 1 39 e ?_;refine zq 2 40 e ?_;refine zq 3 41 e ?_;refine zq 4 42 e ?_;refine zq 5 43 (hx:=fun W dh=>Ce (.tmp 5) rfl rfl dh.2 Tryz.underlying443 rfl XK) e ?_;have cw:=Lh e;have cx:=Lh E.out.lt;refine zs 6 rfl fun n k=>?_
  go_simp;refine k.out _ _ ⟨(World.cell?_alloc_lt _ _ _ cx.out).trans cw.out.1,bb.out.alloc _⟩ fun e=>?_
  clear k n;refine zs 7 rfl fun n k=>?_
  rw[AQ (by rfl)];refine wp_append_lies _ (.tmp 42) (.tmp 44) 430 rfl base 443 du _ 3 24 Tryz.underlying430 dj dm dn dp rfl (by omega) (.slice x d A) d _ rfl (Q.out.alloc _) (zA D.heap.size 0) 1 1 [zI s,zI b,zI c] rfl rfl (World.news_of_block (cs:=#[zI s,zI b,zI c]) (t:=443) (fr:=(0,0)) (heap_alloc_new D _)) (by simp[Value.oneCell']) (by omega) (by unfold maxLen;omega) (by omega) (by have:=bk.out;have:=ag.out.size;simp;omega) (D.heap.size+1) (by simp) ?_;intro ec V P bx cm cj dl;rw[Ga 45 (by rfl)];dsimp only[Act.put,AZ,Bq,Bi];have al:Am (fun i=>(Value.slice x d A).ownBlock=some i) D P:=((Aa _ D).alloc _).grown cm fun i h _=>h
  have Z:=Lh (E.out.Ab al fun a=>Ba Q.out E.out (by decide) a);have ab:Hid (Cl P r 1 (.slice x d A)):=Lh (by rw[<- F.out];exact Z.out.cell 1);have bc:=Lh (bb.out.Ab al fun a=>Bv (bn.out Y (by rw[F.out];exact a)) (by omega));have br:=Lh bx;have az:=Lh al;have cu:Hid ((Value.slice x d A).ownBlock=some ec∨D.heap.size<=ec):=Lh (cj.imp id fun h=>by omega);have da:Hid (w.heap.size<=D.heap.size):=Lh ag.out.size;clear bx cm cj dl al;refine k.out _ _ ⟨ab.out,bc.out⟩ fun e=>?_
  clear k n;refine zs 8 rfl fun n k=>?_
  go_simp;refine k.out _ _ ⟨ab.out,bc.out⟩ fun e=>?_
  clear k n;refine zs 9 rfl fun n k=>?_
  go_simp;refine k.out _ _ ⟨ab.out,bc.out⟩ fun e=>?_
  clear k n;refine zl fun n k=>?_
  have dv:=ab.out;have dw:=Z.out.frozen 1;go_simp;refine k.out _ _ ?_;clear k n;refine zd ?_;go_wp2_with fail;have ak:Am (fun i=>i=r) P (P.setCell (zA r 1) (zS ec 0 (d+1) V)):=(Aa (fun i=>i=r) P).setCell (p:=zA r 1) (fun _=>rfl) _;have dg:=(ag.out.AJ az.out fun i am a=>.inr (.inr (.inr (by rw[F.out];exact a)))).AJ ak fun i am a=>.inl a
  refine bodyPost_ret (results_none rfl _ _ _) rfl ⟨rfl,?_⟩;have bg:KG L v=L++[v]:=by unfold KG;rw[KU.2 aw.out];rfl
  rw[bg];have cn:(L++[v]).length=d+1:=by rw[Ap,<- av.out];rfl
  have dd:AX (P.setCell (zA r 1) (zS ec 0 (d+1) V)) r 433 #[zS q 0 (d+1) z,zS ec 0 (d+1) V,.map (some m)]:=Z.out.Dw 1 (zS ec 0 (d+1) V);have de:=Aj br.out ak fun j ea a=>Ba br.out Z.out (by decide) (by rw[<- show j=r from a];exact ea)
  refine⟨zS q 0 (d+1) z,zS ec 0 (d+1) V,Ig f v d,⟨g.out.ge,dd,?_,⟨_,by rw[cn];exact de⟩,g.out.gp,?_,fun u=>?_⟩,fun i a=>cv.out.imp (fun h=>by rw[U.out,h,<- a];rfl) fun h=>by cases a;have:=cz.out;show w.heap.size<=q;omega,fun i a=>cu.out.imp (fun h=>by rw[F.out,h,<- a];rfl) fun h=>by cases a;have:=da.out;show w.heap.size<=ec;omega,dg⟩
  ·rw[cn,Bw];exact Aj (Aj ae.out az.out fun j ea a=>Ex ae.out Q.out (by decide) ea a) ak fun j ea a=>Ba ae.out E.out (by decide) (by rw[<- show j=r from a];exact ea)
  ·exact(ad.out.Ab az.out fun a=>by obtain⟨l,eb,_⟩:=ad.out;exact eb.own_ne Q.out a).Ab ak fun a=>ad.out.Ee E.out a.symm
  ·unfold Ig;by_cases ao:u=v
   ·rw[AQ ao,ao];simp
   ·rw[Bg ao,g.out.mem u,Bd,Ai];exact⟨.inl,fun h=>h.elim id fun h=>Bv h ao⟩
 ·have aw:Hid (v∈L):=Lh ((g.out.mem v).1 (by rw[K];rfl));have ap:=g.out.mp.Jc (T:=431) (e:=3) GV Tryz.underlying431 bf K true;simp only[if_true] at ap;clear K;go_wp2_with fail;have bg:KG L v=L:=by unfold KG;rw[JU.2 aw.out];rfl
  refine bodyPost_ret (results_none rfl _ _ _) rfl ⟨rfl,?_⟩;rw[bg];exact⟨aq,N,f,g.out,fun _ a=>.inl a,fun _ a=>.inl a,G.out⟩
end

end Go.Proofs.YtcjcndnjpedniaaGreat
