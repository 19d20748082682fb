/- A part of the proof of TopUsers. -/
import Derived.Test.YtcjcndnjpedniaaGreatB35
namespace Go.Proofs.YtcjcndnjpedniaaGreat
set_option linter.all false
set_option maxRecDepth 100000
set_option maxHeartbeats 8000000
open Go.RowKit
section
variable {w w' W:Bc} {wd:GL} {x:Option Nat} {cs:List Eb} {o:Nat->Nat} {S:List Led.Vl} {M:List Led.Made} {T:List Int}
theorem Mf (e:ED cs w o) (t:cs[0]?= some (Dr wd)) (r:wd.L.length<=100) (fr c:Int) (s:BB) :
  Calls Tryz.prog 36 #[zP wd.wb,.agg #[zI fr,zI c,.string s]] w (Rt (.tuple #[]) fun w'=>FE x (cs.set 0 (Dr {wd with L:=wd.L++[(fr,c,s)]})) o w w'):=by
 obtain⟨v,m,g,b⟩:=e.p 0 _ t;obtain⟨i,k,rfl⟩:=BD b.1;refine(YX wd.wb 0 wd.L.length k i (BN VR wd.L) fr c s w _ m rfl (EN _) r b.1).mono ?_;rintro a w' ⟨j,l,rfl,n,f,p,q⟩;refine⟨rfl,e.upd 0 _ (p.mono fun u _ a=>by rcases a with rfl|a<;>first|exact g|exact b.2 u a) ⟨.slice j (wd.L.length+1) l,n,.inl g,?_,fun d h=>?_⟩⟩
 ·rw[show(wd.L++[(fr,c,s)]).length=wd.L.length+1 by simp,Ez];exact f
 ·exact(q d h).imp (b.2 d) fun a=>⟨a,Gd f h⟩
theorem OE {vl:Value} (a:AX w wd.wb 91 (Jz wd vl)):Cl w wd.wb 0 (Rl wd.n0)/\Cl w wd.wb 3 (Rl wd.n1)/\Cl w wd.wb 9 (zP wd.kb)/\Cl w wd.wb 10 vl:=⟨a.cell 0,a.cell 3,a.cell 9,a.cell 10⟩
theorem Kc (b:ED cs w o) (e:cs[0]?= some (Dr wd)) {nb:Nat} (d:wd.n0=some nb):Cl w wd.wb 0 (zP nb):=by
 obtain⟨f,c,_⟩:=b.p 0 _ e;have a:=(OE c).1;rw[d] at a;exact a
theorem Oi (b:ED cs w o) (e:cs[0]?= some (Dr wd)) {nb:Nat} (d:wd.n1=some nb):Cl w wd.wb 3 (zP nb):=by
 obtain⟨f,c,_⟩:=b.p 0 _ e;have a:=(OE c).2.1;rw[d] at a;exact a
theorem jH {d:Fb} {j:Nat} {y:DZ} (f:ED cs w o) (h:cs[j]?= some (Dv d)) (i:d.ob=some y):Calls Tryz.prog 50 #[.pointer (some (zA d.nb 3))] w fun e w'=>∃ v,e= .returned (.agg #[zI d.boot,v])/\Au w w':=by
 obtain⟨x,u,t,z,a⟩:=f.node h;have b:=a.ro;rw[i] at b;obtain⟨q,k,c,r,l,s,m,n,p,rfl,g,_⟩:=b;exact Uo d.nb c d.boot (a.BR.cell 9) (a.BR.cell 10) g
theorem VE (bt:Int) (v:Value):∀ W:Bc,(Instr.field 36 (.agg #[zI bt,v]) 0).run Tryz.prog W= .ok (zI bt) W:=fun W=>by kernel_rfl
def kH (x:Option Nat) (cs:List Eb) (wd:GL) (d:Nat) (ch:Int) (d0:Fb) (L:List Ca) (S:List Led.Vl) (M:List Led.Made) (T:List Int) (w:Bc) (o:Nat->Nat) (w':Bc):Prop :=
 ∃ c a,Ik S c (d0.key,Dy (Db (He d0 ch 1 1)))/\(∀ b,b∈a↔b∈L/\GY b d0.Kh=true)/\a.length<=L.length/\FE x (((cs.set 2 (Dv {d0 with L:=[(ch,1,0)]})).set 1 (Eg d c M T)).set 0 (Dr {wd with L:=wd.L++[(d0.num,1,Dy (Hm ch (a++[He d0 ch 1 1])))]})) o w w'
theorem Zx {d0 d1:Fb} {base:Nat} {ch bv:Int} {y:DZ} {L:List Ca} (op arg:Int) (g h i j k l m:Value) (a:ED cs w o) (u:cs[0]?= some (Dr wd)) (ad:cs[1]?= some (Eg wd.kb S M T)) (an:cs[2]?= some (Dv d0)) (ar:cs[3]?= some (Dz base d0.st bv L)) (ao:cs[4]?= some (Dv d1)) (Q:wd.n0=some d0.nb) (R:wd.n1=some d1.nb) (ak:d0.kb=wd.kb) (ap:d1.ob=some y) (ag:d1.boot=1) (am:wd.L.length<=100)
  (X:d0.L=[]) (Z:S.length<2000) (bp:d0.num=0) (ae:0<=d0.boot) (af:d0.boot<=40) (aj:ch=16385+50*(41*d0.num+d0.boot)) (aq:Cn (He d0 ch 1 1)) (Y:∀ c∈L,Cn c) (al:L.length<=6) (G:Ca) (ah:G∈L) (ai:GY G d0.Kh=true) :
  Calls Tryz.prog 29 #[zP wd.wb,zP wd.wb,zI 1,.agg #[zI 2,zO,zI 1,zO,zI op,zI arg,zO,zN,g,h,i,j,k,l,m,zU 0,zE,zE,zN]] w (Za (fun W w'=>kH x cs wd wd.kb ch d0 L S M T W o w') w):=by
 have ba:Hid (∀ W,Cl W wd.wb 3 (zP d1.nb)->Calls Tryz.prog 12 #[zP wd.wb,zI 1] W (Rt (zP d1.nb) fun w'=>W=w')):=Lh fun W a=>Jf wd.wb 1 d1.nb W (by omega) a
 have J:=Lh fun W (a:ED cs W o)=>jH a ao ap
 rw[ag] at J;have bb:=Lh fun W (a:ED cs W o)=>bW (x:=x) (nd:=1) (bt:=1) a ad an ar ak (by omega) (by omega) (by omega) X Z (by omega) (by omega) (by omega) (by omega) (by omega) (by omega) (by omega) ae af aj aq Y al G ah ai
 have bc:=Lh fun W (H:List Eb) (br:Nat->Nat) (a:ED H W br) (u:H[0]?= some (Dr wd))=>Mf (x:=x) a u am
 have r:=Lh u;have b:=Lh (a.AB ((T0 w).alloc (.cells #[zI 2,zO,zI 1,zO,zI op,zI arg,zO,zN,g,h,i,j,k,l,m,zU 0,zE,zE,zN] 51)));have d:Hid (Loc o (w.alloc (.cells #[zI 2,zO,zI 1,zO,zI op,zI arg,zO,zN,g,h,i,j,k,l,m,zU 0,zE,zE,zN] 51)) w.heap.size 51 #[zI 2,zO,zI 1,zO,zI op,zI arg,zO,zN,g,h,i,j,k,l,m,zU 0,zE,zE,zN]):=Lh (Loc.new a _ (by decide) (by decide));have f:Hid (Au w (w.alloc (.cells #[zI 2,zO,zI 1,zO,zI op,zI arg,zO,zN,g,h,i,j,k,l,m,zU 0,zE,zE,zN] 51))):=Lh ((Aa _ w).alloc _);have B:=Lh (Bf Q R);clear a u ad an ar ao Q R ak ap ag am X Z bp ae af aj aq Y al ah ai;go_in;go_upto_region 1 with(fail)
 generalize w.alloc (.cells #[zI 2,zO,zI 1,zO,zI op,zI arg,zO,zN,g,h,i,j,k,l,m,zU 0,zE,zE,zN] 51)=e at b d f ⊢;generalize w.heap.size=F at d ⊢;have n:Cl e F 0 (zI 2):=d.out.BR.cell 0;have D:Hid (Loc o (e.alloc (.cells #[zO,zO,zE] 107)) e.heap.size 107 #[zO,zO,zE]):=Lh (Loc.new b.out _ (by decide) (by decide));have q:=Lh ((T0 e).alloc (.cells #[zO,zO,zE] 107));go_upto_region 3 with(fail)
 have N:Hid (w.heap.size<=e.heap.size):=Lh f.out.size;replace d:=Lh (d.out.AB q.out);replace b:=Lh (b.out.AB q.out);replace f:=Lh (f.out.to q.out);clear q n;generalize e.alloc (.cells #[zO,zO,zE] 107)=bx at b d f D ⊢;generalize e.heap.size=cc at D N ⊢;have n:Cl bx F 0 (zI 2):=d.out.BR.cell 0;have bo:=Lh (Oi b.out r.out B.out.2);have cf:=Kc b.out r.out B.out.1;have ca:=Lh cf;clear cf;go_upto_region 9 with(first
  |(go_at_call 12;refine(ba.out _ bo.out).mono ?_;rintro I bz ⟨rfl,rfl⟩)
  |(go_at_call 50;refine(J.out _ b.out).mono ?_;rintro I bz ⟨v,rfl,p⟩;have cb:=VE 1 v;have bg:=Lh (f.out.to p);have O:=Lh (b.out.AB p);have be:=Lh (d.out.AB p);have bh:=Lh (D.out.AB p);clear p n))
 have cf:=Kc O.out r.out B.out.1;go_upto_region 22 with(first
  |(go_at_call 51;refine(bb.out _ O.out).mono ?_;rintro I cd ⟨P,z,rfl,au,hC,V,bs,aa,s⟩;have E:=Lh (Bf au (Bf hC V));have bi:=Lh aa;have bl:=Lh s;have C:=Lh (bh.out.stay s);have K:=Lh (be.out.stay s);clear au hC V aa s cf)
  |(refine Bo rfl (.tmp 8) (.tmp 36) rfl rfl (cs':=#[zI d0.num,zI 1,.string (Dy (Hm ch (z++[He d0 ch 1 1])))]) rfl C.out.BR Ht rfl (by simp[Value.oneCell']) ?_;intro az U t bq;clear bq))
 have bj:=Lh (bi.out.off t C.out.z);have bm:=Lh (Ew.after bg.out bl.out |>.off t N.out);have A:=Lh U;have bf:=Lh (K.out.BR.Ab t (K.out.BR.GJ C.out.BR (by decide)));clear t U;have av:((cs.set 2 (Dv {d0 with L:=[(ch,1,0)]})).set 1 (Eg wd.kb P M T))[0]?= some (Dr wd):=FX (FX r.out (by omega)) (by omega);have bd:=Lh (bc.out az _ bs bj.out av d0.num 1 (Dy (Hm ch (z++[He d0 ch 1 1]))));have n:Cl az F 0 (zI 2):=bf.out.cell 0;clear av;have aw:=A.out.cell 0;have ax:=A.out.cell 1;have ay:=A.out.cell 2;dsimp at aw ax ay;go_wp2_with (first
  |(go_at_call 36;refine bd.out.mono ?_;rintro I ce ⟨rfl,bu,ab,ac⟩;have bk:=Lh ab;have bn:=Lh (bm.out.trans ac);clear ab ac n aw ax ay))
 go_end0;exact⟨rfl,P,z,E.out.1,E.out.2.1,E.out.2.2,bu,bk.out,bn.out⟩
def kG (x:Option Nat) (cs:List Eb) (wd:GL) (c:Nat) (ch nx op arg:Int) (d0:Fb) (S:List Led.Vl) (M:List Led.Made) (T:List Int) (w:Bc) (o:Nat->Nat) (w':Bc):Prop :=
 ∃ a,Wrote M a ((ch,0,nx,Dy (F8 ch nx op arg)),d0.num)/\FE x (((cs.set 2 (Dv {d0 with L:=[(ch,1,nx+1)],C:=[(ch,nx,op,arg)]})).set 1 (Eg c S a T)).set 0 (Dr {wd with L:=wd.L++[(d0.num,1,Dy (F8 ch nx op arg))]})) o w w'
theorem Zw {d0:Fb} {ch nx op arg:Int} (f g h i j k l:Value) (m:ED cs w o) (B:cs[0]?= some (Dr wd)) (ab:cs[1]?= some (Eg wd.kb S M T)) (af:cs[2]?= some (Dv d0)) (Q:wd.n0=some d0.nb) (ad:d0.kb=wd.kb) (ae:wd.L.length<=100)
  (V:d0.L=[(ch,1,nx)]) (hC:d0.C=[]) (X:M.length<2000) (ay:d0.num=0) (ac:Ey ch) (R:ch/8192=2) (ah:0<=nx) (ag:nx<=1000) (ha:G8 op arg) :
  Calls Tryz.prog 29 #[zP wd.wb,zP wd.wb,zO,.agg #[zI 3,zO,zO,zO,zI op,zI arg,zO,zN,f,g,h,i,j,k,l,zU 0,zE,zE,zN]] w (Za (fun W w'=>kG x cs wd wd.kb ch nx op arg d0 S M T W o w') w):=by
 have ao:=Lh fun W (m:ED cs W o)=>Z9 (x:=x) m ab af ad (by omega) V hC X (by omega) (by omega) ac R ah ag ha
 have ap:=Lh fun W (P:List Eb) (bb:Nat->Nat) (m:ED P W bb) (B:P[0]?= some (Dr wd))=>Mf (x:=x) m B ae
 have y:=Lh B;have d:=Lh (m.AB ((T0 w).alloc (.cells #[zI 3,zO,zO,zO,zI op,zI arg,zO,zN,f,g,h,i,j,k,l,zU 0,zE,zE,zN] 51)));have c:Hid (Loc o (w.alloc (.cells #[zI 3,zO,zO,zO,zI op,zI arg,zO,zN,f,g,h,i,j,k,l,zU 0,zE,zE,zN] 51)) w.heap.size 51 #[zI 3,zO,zO,zO,zI op,zI arg,zO,zN,f,g,h,i,j,k,l,zU 0,zE,zE,zN]):=Lh (Loc.new m _ (by decide) (by decide));have bj:Hid (Au w (w.alloc (.cells #[zI 3,zO,zO,zO,zI op,zI arg,zO,zN,f,g,h,i,j,k,l,zU 0,zE,zE,zN] 51))):=Lh ((Aa _ w).alloc _);have G:=Lh Q;clear m B ab af Q ad ae V hC X ay ac R ah ag ha;go_in;go_upto_region 1 with(fail)
 generalize w.alloc (.cells #[zI 3,zO,zO,zO,zI op,zI arg,zO,zN,f,g,h,i,j,k,l,zU 0,zE,zE,zN] 51)=n at d c bj ⊢;generalize w.heap.size=b at c ⊢;have s:Cl n b 0 (zI 3):=c.out.BR.cell 0;have p:Hid (Loc o (n.alloc (.cells #[zO,zO,zE] 107)) n.heap.size 107 #[zO,zO,zE]):=Lh (Loc.new d.out _ (by decide) (by decide));have u:=Lh ((T0 n).alloc (.cells #[zO,zO,zE] 107));go_upto_region 3 with(fail)
 have K:Hid (w.heap.size<=n.heap.size):=Lh bj.out.size;replace c:=Lh (c.out.AB u.out);replace d:=Lh (d.out.AB u.out);replace bj:=Lh (bj.out.to u.out);clear u s;generalize n.alloc (.cells #[zO,zO,zE] 107)=bk at d c bj p ⊢;generalize n.heap.size=ba at p K ⊢;have s:Cl bk b 0 (zI 3):=c.out.BR.cell 0;have F:Hid (∀ W,AX W b 51 #[zI 3,zO,zO,zO,zI op,zI arg,zO,zN,f,g,h,i,j,k,l,zU 0,zE,zE,zN]->Cl W b 2 zO/\Cl W b 3 zO/\Cl W b 4 (zI op)/\Cl W b 5 (zI arg)/\Cl W b 6 zO/\Cl W b 7 (zN)):=Lh fun W q=>⟨q.cell 2,q.cell 3,q.cell 4,q.cell 5,q.cell 6,q.cell 7⟩
 go_upto_region 11 with(fail)
 refine GZ (fun W=>Cl W wd.wb 0 (zP d0.nb)/\Cl W b 2 zO/\Cl W b 3 zO/\Cl W b 4 (zI op)/\Cl W b 5 (zI arg)/\Cl W b 6 zO/\Cl W b 7 (zN)) ⟨Kc d.out y.out G.out,F.out _ c.out.BR⟩ fun a=>?_
 have r:Hid (Au bk bk.drew):=Lh (Aa _ _).drew;replace c:=Lh (c.out.AB r.out);replace d:=Lh (d.out.AB r.out);replace bj:=Lh (bj.out.to r.out);replace p:=Lh (p.out.AB r.out);clear r s;generalize bk.drew=bh at d c bj p a ⊢;refine hq 0 41 a ?_;refine hq 1 42 a ?_;refine hq 2 43 a ?_;refine hq 3 44 a ?_;refine hq 4 45 a ?_;refine hq 5 46 a ?_;refine hq 6 47 a ?_;refine hq 7 48 a ?_;refine Gg 8 fun J t=>?_
 go_simp;refine(ao.out _ d.out).mono ?_;rintro e be ⟨rfl,O,aj,bc,Y,z⟩;have aw:=Lh aj;have bl:=Lh Y;have au:=Lh z;have H:=Lh (p.out.stay z);have D:=Lh (c.out.stay z);clear aj Y z;go_wp2;refine t.out _ _ ⟨Kc bl.out (FX (FX y.out (by omega)) (by omega)) G.out,F.out _ D.out.BR⟩ fun a=>?_
 clear t J;refine hq 9 40 a ?_;refine hq 10 50 a ?_;refine hq 11 51 a ?_;refine Gg 12 fun J t=>?_
 rw[AQ (by rfl)];refine Ck (.tmp 8) (.tmp 50) rfl rfl rfl H.out.BR Ht rfl (by simp[Value.oneCell']) ?_;intro U A az;clear az;rw[CZ (by rfl)];have I:=Lh (bl.out.off A H.out.z);have N:=Lh (Ew.after bj.out au.out |>.off A K.out);have v:=Lh U;have E:=Lh (D.out.BR.Ab A (D.out.BR.GJ H.out.BR (by decide)));clear A U;refine t.out _ _ ⟨Kc I.out (FX (FX y.out (by omega)) (by omega)) G.out,F.out _ E.out⟩ fun a=>?_
 clear t J;refine hq 13 9 a ?_;refine zw ?_;generalize be.setRow ba #[zI d0.num,zI 1,.string (Dy (F8 ch nx op arg))]=an at I N v E a ⊢;clear a;have ai:((cs.set 2 (Dv {d0 with L:=[(ch,1,nx+1)],C:=[(ch,nx,op,arg)]})).set 1 (Eg wd.kb S O T))[0]?= some (Dr wd):=FX (FX y.out (by omega)) (by omega);have aq:=Lh (ap.out an _ bc I.out ai d0.num 1 (Dy (F8 ch nx op arg)));have s:Cl an b 0 (zI 3):=E.out.cell 0;clear ai;have ak:=v.out.cell 0;have al:=v.out.cell 1;have am:=v.out.cell 2;dsimp at ak al am;go_wp2_with (first
  |(go_at_call 36;refine aq.out.mono ?_;rintro e bi ⟨rfl,bd,Z,aa⟩;have ar:=Lh Z;have av:=Lh (N.out.trans aa);clear Z aa s ak al am))
 go_end0;exact⟨rfl,O,aw.out,bd,ar.out,av.out⟩
end

section
variable {w w' W:Bc} {wd:GL} {x:Option Nat} {cs:List Eb} {o:Nat->Nat}
theorem Mt (P:List Eb->Prop) (b l:Nat) (fr:Int) (s:BB) (g:ED cs w o) (X:cs[0]?= some (Dr wd)) (J:wd.L=[(fr,(b:Int),s)]) (V:b<=2) (T:∀ W j,ED (cs.set 0 (Dr {wd with L:=[]})) W j->Cl W wd.wb (b*3) (zP l))
  (G:∀ W j,ED (cs.set 0 (Dr {wd with L:=[]})) W j->Calls Tryz.prog 58 #[zP l,.agg #[zI fr,zI b,.string s]] W (Rt (.tuple #[zN,zO]) fun w'=>∃ cs',P cs'/\FE x cs' j W w')) :
  Calls Tryz.prog 30 #[zP wd.wb,zI 8,zO] w (Za (fun W w'=>∃ cs',P cs'/\FE x cs' o W w') w):=by
 have aa:Hid (∀ W,Cl W wd.wb (b*3) (zP l)->Calls Tryz.prog 12 #[zP wd.wb,zI b] W (Rt (zP l) fun w'=>W=w')):=Lh fun W g=>Jf wd.wb b l W V g
 obtain⟨av,A,R,E⟩:=g.p 0 _ X;have t:=E.1;rw[J] at t;obtain⟨a,f,rfl,am⟩:=J9 t (by simp);have S:o a=1:=E.2 a (by simp[Value.ownBlock]);have e:Hid (w.ownsRow 0 107 3 (zS a 0 1 f) 1 [zI fr,zI b,.string s]):=Lh t;have k:=Lh A;have n:=Lh (Bf R S);have r:=Lh g;have ah:=Lh G;have ac:=Lh T;have h:Cl w wd.wb 10 (zS a 0 1 f):=A.cell 10;have aj:Cl w a 0 (zI fr):=e.out.cellAt 0 (by omega);have ak:Cl w a 1 (zI b):=e.out.cellAt 1 (by omega);have al:Cl w a 2 (.string s):=e.out.cellAt 2 (by omega);have y:Hid (Loc o (w.alloc (.cells #[zI fr,zI b,.string s] 107)) w.heap.size 107 #[zI fr,zI b,.string s]):=Lh (Loc.new g _ (by decide) (by decide));have i:=Lh ((T0 w).alloc (.cells #[zI fr,zI b,.string s] 107));have ab:=Lh h;clear g X J A R E t S G T V am;go_in;go_upto_region 1 with(fail)
 clear h aj ak al;replace e:=Lh (Aj e.out i.out fun _ _ g=>g);replace k:=Lh (k.out.Ab i.out id);replace r:=Lh (r.out.AB i.out);have h:=Ae ab.out i.out;generalize w.alloc (.cells #[zI fr,zI b,.string s] 107)=Z at e k r y i h ⊢;generalize w.heap.size=F at y ⊢;have au:Hid (Cl Z wd.wb 10 (zS a 0 1 f)):=Lh h;go_upto_region 4 with(go_at_call 57;refine(TB e.out).mono ?_;rintro c u ⟨rfl,K,C⟩;have H:=Lh K;have m:=Lh (k.out.Ab C fun c=>Ba e.out k.out (by decide) (by rw[show wd.wb=a from c];rfl));have ai:=Lh C;clear K C h;have h:Cl u wd.wb 10 (zS a 0 1 f):=m.out.cell 10;have an:=m.out.frozen 10)
 have B:=(Aa (fun d=>d=wd.wb) u).setCell (p:=zA wd.wb 10) (fun _=>rfl) (zS a 0 0 f);have O:Am (fun d=>o d=0+1) Z (u.setCell (zA wd.wb 10) (zS a 0 0 f)):=((ai.out.mono (S':=fun d=>o d=0+1) fun d _ c=>by rw[show d=a from c];exact n.out.2).AJ B fun d _ c=>by rw[show d=wd.wb from c];exact n.out.1)
 obtain⟨j,M,D⟩:=r.out.upd (x:=x) 0 (Dr {wd with L:=[]}) O ⟨zS a 0 0 f,m.out.Dw 10 _,.inl n.out.1,Aj H.out B fun Y hq c=>Ba H.out m.out (by decide) (by rw[hq,show Y=wd.wb from c]),fun Y hq=>by rw[<- KY hq];exact .inl n.out.2⟩;have z:=Lh M;have I:=Lh (Ew.after i.out D);have q:=Lh (y.out.stay D);clear B O M D h an;generalize u.setCell (zA wd.wb 10) (zS a 0 0 f)=v at z I q ⊢;have ad:=Lh (ac.out v j z.out);have ao:Cl v F 0 (zI fr):=q.out.BR.cell 0;have ap:Cl v F 1 (zI b):=q.out.BR.cell 1;have aq:Cl v F 2 (.string s):=q.out.BR.cell 2;go_upto_region 8 with(first
  |(go_at_call 12;refine(aa.out _ ad.out).mono ?_;rintro c aw ⟨rfl,rfl⟩)
  |(go_at_call 58;refine(ah.out _ _ z.out).mono ?_;rintro c ax ⟨rfl,cs',U,ar,N,Q⟩;have af:=Lh N;have ag:=Lh (I.out.trans Q);have ae:=Lh U;clear N Q U ao ap aq))
 refine wp_loop_rounds 1 ?_;rw[rounds_succ];go_wp2;go_end0;exact⟨rfl,cs',ae.out,ar,af.out,ag.out⟩
theorem Xy (P:List Eb->Int × Int × BB->Prop) (a u:Nat) (fr:Int) (s:BB) (b:ED cs w o) (D:cs[0]?= some (Dr wd)) (ac:wd.L=[(fr,(a:Int),s)]) (aq:a<=2) (ao:∀ W k,ED (cs.set 0 (Dr {wd with L:=[]})) W k->Cl W wd.wb (a*3) (zP u))
  (af:∀ cs' l,P cs' l->cs'[0]?= some (Dr {wd with L:=[]}))
  (V:∀ W k,ED (cs.set 0 (Dr {wd with L:=[]})) W k->Calls Tryz.prog 58 #[zP u,.agg #[zI fr,zI a,.string s]] W fun e w'=>∃ g,e= .returned (.tuple #[zS g 0 1 1,zO])/\∃ cs' l v,P cs' l/\ED cs' w' v/\Ew x k v W w'/\Loc v w' g 107 #[zI l.1,zI l.2.1,.string l.2.2]) :
  Calls Tryz.prog 30 #[zP wd.wb,zI 8,zO] w (Za (fun W w'=>∃ cs' l,P cs' l/\FE x (cs'.set 0 (Dr {wd with L:=[l]})) o W w') w):=by
 have bb:=Lh af;clear af;have av:Hid (∀ W,Cl W wd.wb (a*3) (zP u)->Calls Tryz.prog 12 #[zP wd.wb,zI a] W (Rt (zP u) fun w'=>W=w')):=Lh fun W b=>Jf wd.wb a u W aq b
 obtain⟨bq,N,am,S⟩:=b.p 0 _ D;have C:=S.1;rw[ac] at C;obtain⟨g,h,rfl,bl⟩:=J9 C (by simp);have an:o g=1:=S.2 g (by simp[Value.ownBlock]);have f:Hid (w.ownsRow 0 107 3 (zS g 0 1 h) 1 [zI fr,zI a,.string s]):=Lh C;have m:=Lh N;have z:=Lh (Bf am an);have B:=Lh b;have bg:=Lh V;have az:=Lh ao;have i:Cl w wd.wb 10 (zS g 0 1 h):=N.cell 10;have bi:Cl w g 0 (zI fr):=f.out.cellAt 0 (by omega);have bj:Cl w g 1 (zI a):=f.out.cellAt 1 (by omega);have bk:Cl w g 2 (.string s):=f.out.cellAt 2 (by omega);have I:Hid (Loc o (w.alloc (.cells #[zI fr,zI a,.string s] 107)) w.heap.size 107 #[zI fr,zI a,.string s]):=Lh (Loc.new b _ (by decide) (by decide));have j:=Lh ((T0 w).alloc (.cells #[zI fr,zI a,.string s] 107));have ay:=Lh i;clear b D ac N am S C an V ao aq bl;go_in;go_upto_region 1 with(fail)
 clear i bi bj bk;replace f:=Lh (Aj f.out j.out fun _ _ b=>b);replace m:=Lh (m.out.Ab j.out id);replace B:=Lh (B.out.AB j.out);have i:=Ae ay.out j.out;generalize w.alloc (.cells #[zI fr,zI a,.string s] 107)=au at f m B I j i ⊢;generalize w.heap.size=T at I ⊢;have bp:Hid (Cl au wd.wb 10 (zS g 0 1 h)):=Lh i;go_upto_region 4 with(go_at_call 57;refine(TB f.out).mono ?_;rintro e E ⟨rfl,ae,Q⟩;have X:=Lh ae;have y:=Lh (m.out.Ab Q fun e=>Ba f.out m.out (by decide) (by rw[show wd.wb=g from e];rfl));have bh:=Lh Q;clear ae Q i;have i:Cl E wd.wb 10 (zS g 0 1 h):=y.out.cell 10;have bm:=y.out.frozen 10)
 have O:=(Aa (fun c=>c=wd.wb) E).setCell (p:=zA wd.wb 10) (fun _=>rfl) (zS g 0 0 h);have aj:Am (fun c=>o c=0+1) au (E.setCell (zA wd.wb 10) (zS g 0 0 h)):=((bh.out.mono (S':=fun c=>o c=0+1) fun c _ e=>by rw[show c=g from e];exact z.out.2).AJ O fun c _ e=>by rw[show c=wd.wb from e];exact z.out.1)
 obtain⟨k,ag,R⟩:=B.out.upd (x:=x) 0 (Dr {wd with L:=[]}) aj ⟨zS g 0 0 h,y.out.Dw 10 _,.inl z.out.1,Aj X.out O fun q hq e=>Ba X.out y.out (by decide) (by rw[hq,show q=wd.wb from e]),fun q hq=>by rw[<- KY hq];exact .inl z.out.2⟩;have J:=Lh ag;have aa:=Lh (Ew.after j.out R);have A:=Lh (I.out.stay R);clear O aj ag R i bm;generalize E.setCell (zA wd.wb 10) (zS g 0 0 h)=F at J aa A ⊢;have ba:=Lh (az.out F k J.out);have bt:Cl F T 0 (zI fr):=A.out.BR.cell 0;have r:Cl F T 1 (zI a):=A.out.BR.cell 1;have t:Cl F T 2 (.string s):=A.out.BR.cell 2;have aw:=Lh fun(W:Bc) (cs':List Eb) (bn:Nat->Nat) (b:ED cs' W bn) (D:cs'[0]?= some (Dr {wd with L:=[]}))=>Mf (x:=x) b D (by simp)
 go_upto_region 8 with(first
  |(go_at_call 12;refine(av.out _ ba.out).mono ?_;rintro e br ⟨rfl,rfl⟩)
  |(go_at_call 58;refine(bg.out _ _ J.out).mono ?_;rintro e d ⟨M,rfl,cs',l,v,ap,ah,ak,ad⟩;have bc:=Lh ah;have be:=Lh (aa.out.trans ak);have H:=Lh ad;have Y:=Lh ap;clear ah ak ap ad bt r t))
 refine wp_loop_rounds 2 ?_;rw[rounds_succ];have bt:Cl d M 0 (zI l.1):=H.out.BR.cell 0;have r:Cl d M 1 (zI l.2.1):=H.out.BR.cell 1;have t:Cl d M 2 (.string l.2.2):=H.out.BR.cell 2;have n:Hid (AX (d.alloc (.cells #[zI l.1,zI l.2.1,.string l.2.2] 107)) d.heap.size 107 #[zI l.1,zI l.2.1,.string l.2.2]):=Lh (AX.new d _ _);have K:=Lh ((T0 d).alloc (.cells #[zI l.1,zI l.2.1,.string l.2.2] 107));go_upto_region 10 with(fail)
 clear bt r t;have Z:=Lh (bc.out.AB K.out);have ab:=Lh (be.out.AB K.out);generalize d.alloc (.cells #[zI l.1,zI l.2.1,.string l.2.2] 107)=G at n K Z ab ⊢;generalize d.heap.size=U at n ⊢;have bt:Cl G U 0 (zI l.1):=n.out.cell 0;have r:Cl G U 1 (zI l.2.1):=n.out.cell 1;have t:Cl G U 2 (.string l.2.2):=n.out.cell 2;have ax:=Lh (aw.out G cs' v Z.out (bb.out _ _ Y.out) l.1 l.2.1 l.2.2);go_upto_region 11 with(go_at_call 36;refine ax.out.mono ?_;rintro e bs ⟨rfl,bo,ai,al⟩;have bd:=Lh ai;have bf:=Lh (ab.out.trans al);clear ai al bt r t)
 go_wp2;rw[rounds_succ];go_wp2;go_end0;exact⟨rfl,cs',l,Y.out,bo,bd.out,bf.out⟩
end

section
variable {w w' W:Bc} {wd:GL} {x:Option Nat} {cs:List Eb} {o:Nat->Nat} {S:List Led.Vl} {M:List Led.Made} {c:Ca}
theorem Ay.off {h : Type} {V:h->Value} {size:Nat} {A:Option Addr} {xs:List h} {S:Nat->Prop} (i:Ay V w w.heap.size size A xs) (d:Am S w w') (j:∀ b,A=some b->¬S b.block):Ay V w' w'.heap.size size A xs:=by
 intro g m;obtain⟨a,o,c,e,k⟩:=i g m;refine⟨a,o,c,Bj e d.size,fun f l=>?_⟩;rw[d.cell (p:=zA a (o+g*size+f)) e (j (zA a o) c)];exact k f l
theorem Yu {b : Type} {V:b->Value} {n g:Nat} {t:TypeId} {vs:Array Value} {x:b} (a:AX W g t vs) (c:(V x).cells=vs):Ay V W W.heap.size n (some (zA g 0)) [x]:=fun h d=>by
 have e:h=0:=by simpa using d
 subst e;refine⟨g,0,rfl,a.lt,fun f i=>?_⟩;simp only[FU,Bz,List.getElem_singleton,c];exact a.cell f
theorem mU (f:Addr) (k:Nat) (j:ED cs w o) (p:cs[0]?= some (Dr wd)) (r:cs[1]?= some (Eg wd.kb S M [])) (i:Cn c) (n:Ay Value.string w w.heap.size 1 (some f) c.Bl) (H:c.Aq%8192<300) :
  Calls Tryz.prog 33 #[zP wd.wb,zO,zI 1,.agg #[zI c.kind,zU c.Aq,.string c.Ad,.slice (some f) c.Bl.length k,zI c.BX,zI c.till,zI c.AO]] w (Za Au w):=by
 have N:decide (c.Aq%8192<300)=true:=BH H;have u:=Lh fun W (n:Ay Value.string W W.heap.size 1 (some f) c.Bl)=>Ja c (some f) k W i n
 have A:Cu c (some f) k=#[zI c.kind,zU c.Aq,.string c.Ad,.slice (some f) c.Bl.length k,zI c.BX,zI c.till,zI c.AO]:=rfl;rw[A] at u;have v:=j.book r;have C:Hid (∀ W,Au w W->Calls Tryz.prog 61 #[zP wd.kb,zU c.Aq] W (Rt (.bool false) (Au W))):=Lh fun W m=>by
  refine(Led.mW _ _ S M [] c.Aq W i.su (v.AB m)).mono ?_;rintro z w' ⟨rfl,e⟩;exact⟨rfl,e⟩
 have h:Hid (Ay Value.string w w.heap.size 1 (some f) c.Bl):=Lh n;have O:c.Aq.tmod 8192=c.Aq%8192:=DY i.su.1;have P:IntKind.i64.wrap c.Aq=c.Aq:=Dp _ (by have:=i.su;unfold Ey at this;omega) (by have:=i.su;unfold Ey at this;omega);have Q:IntKind.i64.wrap (c.Aq%8192)=c.Aq%8192:=Dp _ (by omega) (by omega);have d:Hid (Loc o (w.alloc (.cells #[zI c.kind,zU c.Aq,.string c.Ad,.slice (some f) c.Bl.length k,zI c.BX,zI c.till,zI c.AO] 31)) w.heap.size 31 #[zI c.kind,zU c.Aq,.string c.Ad,.slice (some f) c.Bl.length k,zI c.BX,zI c.till,zI c.AO]):=Lh (Loc.new j _ (by decide) (by decide));have b:=Lh ((T0 w).alloc (.cells #[zI c.kind,zU c.Aq,.string c.Ad,.slice (some f) c.Bl.length k,zI c.BX,zI c.till,zI c.AO] 31));have y:=Lh p;have J:=Lh r;have g:=Lh (j.AB b.out);have K:=Lh i;have x:Hid (∀ (q:List Eb) (B:Nat->Nat) W,ED q W B->q[0]?= some (Dr wd)->Cl W wd.wb 9 (zP wd.kb)):=Lh fun q B W j p=>by
  obtain⟨R,G,_⟩:=j.p 0 _ p;exact G.cell 9
 clear j p r i n A v;go_in;go_upto_region 1 with(fail)
 replace h:=Lh (h.out.AB b.out);have D:=b;generalize w.alloc (.cells #[zI c.kind,zU c.Aq,.string c.Ad,.slice (some f) c.Bl.length k,zI c.BX,zI c.till,zI c.AO] 31)=T at d b g h D ⊢;obtain⟨I,s⟩:∃ F,F=w.heap.size:=⟨_,rfl⟩
 rw[<- s] at d ⊢;have L:=Lh s;clear s;go_upto_region 2 with(first
  |(refine AA rfl (.tmp 7) rfl rfl d.out.BR Tryz.underlying31 rfl Cg ?_)
  |(go_at_call 60;refine(u.out _ h.out).mono ?_;rintro z t ⟨rfl,e⟩;replace d:=Lh (d.out.AB e);replace g:=Lh (g.out.AB e);replace h:=Lh (h.out.AB e);replace b:=Lh (b.out.to e);clear e))
 refine GZ (fun W=>Cl W I 1 (zU c.Aq)/\Cl W wd.wb 9 (zP wd.kb)) ⟨d.out.BR.cell 1,x.out _ _ _ (g.out.AB (Aa _ _).drew) y.out⟩ fun a=>?_
 have l:Hid (Au t t.drew):=Lh (Aa _ _).drew;replace d:=Lh (d.out.AB l.out);replace g:=Lh (g.out.AB l.out);replace h:=Lh (h.out.AB l.out);replace b:=Lh (b.out.to l.out);clear l;generalize t.drew=U at d g h b a ⊢;refine hq 0 17 a ?_;refine hq 1 18 a ?_;refine hq 2 19 a ?_;refine hq 3 20 a ?_;refine hq 4 21 a ?_;refine hq 5 22 a ?_;refine hq 6 23 a ?_;refine hq 7 24 a ?_;refine hq 8 25 a ?_;refine hq 9 26 a ?_;refine hq 10 27 a ?_;refine hq 11 28 a ?_;refine hq 12 29 a ?_;refine hq 13 30 a ?_;refine hq 14 31 a ?_;refine Gg 15 fun E m=>?_
 go_simp;refine(C.out _ b.out).mono ?_;rintro z V ⟨rfl,e⟩;replace d:=Lh (d.out.AB e);replace g:=Lh (g.out.AB e);replace b:=Lh (b.out.to e);clear e;go_wp2;refine m.out _ _ ⟨d.out.BR.cell 1,x.out _ _ _ g.out y.out⟩ fun a=>?_
 clear m E;refine hq 16 33 a ?_;refine hq 17 34 a ?_;refine hq 18 35 a ?_;refine zw ?_;clear a;go_wp2;go_end0;exact⟨rfl,b.out⟩
def oL (x:Option Nat) (cs:List Eb) (wd:GL) (c:Ca) (S:List Led.Vl) (M:List Led.Made) (w:Bc) (o:Nat->Nat) (w':Bc):Prop :=
 ∃ a,Ik S a (c.Aq,Dy (Db c))/\FE x ((cs.set 1 (Eg wd.kb a M [])).set 0 (Dr {wd with L:=wd.L++[(0,1,Dy (Gp [c]))]})) o w w'
theorem jS (br:Addr) (k:Nat) (m:ED cs w o) (r:cs[0]?= some (Dr wd)) (s:cs[1]?= some (Eg wd.kb S M [])) (n:Cn c) (y:Ay Value.string w w.heap.size 1 (some br) c.Bl) (U:Pg x o w br.block) (X:br.block<w.heap.size) (bl:300<=c.Aq%8192) (R:S.length<2000) (Z:wd.L.length<=100) :
  Calls Tryz.prog 33 #[zP wd.wb,zO,zI 1,.agg #[zI c.kind,zU c.Aq,.string c.Ad,.slice (some br) c.Bl.length k,zI c.BX,zI c.till,zI c.AO]] w (Za (fun W w'=>oL x cs wd c S M W o w') w):=by
 have bh:decide (c.Aq%8192<300)=false:=dF;have H:=Lh fun W (y:Ay Value.string W W.heap.size 1 (some br) c.Bl)=>Ja c (some br) k W n y
 have Y:Cu c (some br) k=#[zI c.kind,zU c.Aq,.string c.Ad,.slice (some br) c.Bl.length k,zI c.BX,zI c.till,zI c.AO]:=rfl;rw[Y] at H;have I:=m.book s;have be:Hid (∀ W,Au w W->Calls Tryz.prog 61 #[zP wd.kb,zU c.Aq] W (Rt (.bool false) (Au W))):=Lh fun W q=>by
  refine(Led.mW _ _ S M [] c.Aq W n.su (I.AB q)).mono ?_;rintro l w' ⟨rfl,j⟩;exact⟨rfl,j⟩
 have f:Hid (Ay Value.string w w.heap.size 1 (some br) c.Bl):=Lh y;have bi:c.Aq.tmod 8192=c.Aq%8192:=DY n.su.1;have bj:IntKind.i64.wrap c.Aq=c.Aq:=Dp _ (by have:=n.su;unfold Ey at this;omega) (by have:=n.su;unfold Ey at this;omega);have bk:IntKind.i64.wrap (c.Aq%8192)=c.Aq%8192:=Dp _ (by omega) (by omega);have e:Hid (Loc o (w.alloc (.cells #[zI c.kind,zU c.Aq,.string c.Ad,.slice (some br) c.Bl.length k,zI c.BX,zI c.till,zI c.AO] 31)) w.heap.size 31 #[zI c.kind,zU c.Aq,.string c.Ad,.slice (some br) c.Bl.length k,zI c.BX,zI c.till,zI c.AO]):=Lh (Loc.new m _ (by decide) (by decide));have d:=Lh ((T0 w).alloc (.cells #[zI c.kind,zU c.Aq,.string c.Ad,.slice (some br) c.Bl.length k,zI c.BX,zI c.till,zI c.AO] 31));have u:=Lh r;have af:=Lh s;have bs:=Lh (m.AB d.out);have t:=Lh n;have B:Hid (∀ (p:List Eb) (bt:Nat->Nat) W,ED p W bt->p[0]?= some (Dr wd)->Cl W wd.wb 9 (zP wd.kb)):=Lh fun p bt W m r=>by
  obtain⟨bn,ay,_⟩:=m.p 0 _ r;exact ay.cell 9
 have bu:=Lh R;have ah:=Lh Z;have A:=Lh (Bf U X);clear R Z U X;clear m r s n y Y I;go_in;go_upto_region 1 with(fail)
 replace f:=Lh (f.out.AB d.out);have ag:=d;generalize w.alloc (.cells #[zI c.kind,zU c.Aq,.string c.Ad,.slice (some br) c.Bl.length k,zI c.BX,zI c.till,zI c.AO] 31)=bo at e d bs f ag ⊢;obtain⟨ab,D⟩:∃ g,g=w.heap.size:=⟨_,rfl⟩
 rw[<- D] at e ⊢;have bf:=Lh D;clear D;go_upto_region 2 with(first
  |(refine AA rfl (.tmp 7) rfl rfl e.out.BR Tryz.underlying31 rfl Cg ?_)
  |(go_at_call 60;refine(H.out _ f.out).mono ?_;rintro l F ⟨rfl,j⟩;replace e:=Lh (e.out.AB j);replace bs:=Lh (bs.out.AB j);replace f:=Lh (f.out.AB j);replace d:=Lh (d.out.to j);clear j))
 refine GZ (fun W=>Cl W ab 1 (zU c.Aq)/\Cl W wd.wb 9 (zP wd.kb)) ⟨e.out.BR.cell 1,B.out _ _ _ (bs.out.AB (Aa _ _).drew) u.out⟩ fun a=>?_
 have i:Hid (Au F F.drew):=Lh (Aa _ _).drew;replace e:=Lh (e.out.AB i.out);replace bs:=Lh (bs.out.AB i.out);replace f:=Lh (f.out.AB i.out);replace d:=Lh (d.out.to i.out);clear i;generalize F.drew=G at e bs f d a ⊢;refine hq 0 17 a ?_;refine hq 1 18 a ?_;refine hq 2 19 a ?_;refine hq 3 20 a ?_;refine hq 4 21 a ?_;refine hq 5 22 a ?_;refine hq 6 23 a ?_;refine hq 7 24 a ?_;refine hq 8 25 a ?_;refine hsA 9 26 a ?_;refine hsA 10 27 a ?_;refine hsA 11 28 a ?_;refine hsA 12 29 a ?_;refine hsA 13 30 a ?_;refine hsA 14 31 a ?_;refine hsA 15 32 a ?_;refine hsA 16 33 a ?_;refine hq 17 34 a ?_;refine hq 18 35 a ?_;refine zw ?_;clear a;go_upto_region 3 with(fail)
 refine GZ (fun W=>Cl W ab 1 (zU c.Aq)/\Cl W wd.wb 9 (zP wd.kb)) ⟨e.out.BR.cell 1,B.out _ _ _ (bs.out.AB (Aa _ _).drew) u.out⟩ fun a=>?_
 have i:Hid (Au G G.drew):=Lh (Aa _ _).drew;replace e:=Lh (e.out.AB i.out);replace bs:=Lh (bs.out.AB i.out);replace f:=Lh (f.out.AB i.out);replace d:=Lh (d.out.to i.out);clear i;generalize G.drew=bc at e bs f d a ⊢;refine hq 0 36 a ?_;refine hq 1 37 a ?_;refine hq 2 38 a ?_;refine hq 3 39 a ?_;refine hq 4 40 a ?_;refine hq 5 41 a ?_;refine hq 6 42 a ?_;have ae:=Lh (Led.pJ _ _ S M [] c.Aq (Dy (Db c)) bc t.out.su (NI t.out) (by have:=bu.out;omega) (bs.out.book af.out));refine Gg 7 fun K q=>?_
 go_simp;refine ae.out.mono ?_;rintro l h ⟨rfl,N,O⟩;obtain⟨bm,P,v⟩:=bs.out.upd (x:=x) 1 (Eg wd.kb (Led.Qw S c.Aq (Dy (Db c))).2 M []) O (N.wider fun k l=>l);have J:=Lh P;have an:=Lh (Ew.after d.out v);have L:=Lh (e.out.stay v);have ai:Hid (Ay Value.string h h.heap.size 1 (some br) c.Bl):=Lh (f.out.off v.t fun bg az ba=>by cases az;exact ba ⟨A.out.1.1,fun b s l=>A.out.1.2 b s (l.same d.out A.out.2 id)⟩);clear N O P v;go_wp2;refine q.out _ _ ⟨L.out.BR.cell 1,B.out _ _ _ J.out (FX u.out (by omega))⟩ fun a=>?_
 clear q K;refine zw ?_;clear a;go_upto_region 4 with(fail)
 have ar:Hid (AX (h.alloc (.cells #[zI c.kind,zU c.Aq,.string c.Ad,.slice (some br) c.Bl.length k,zI c.BX,zI c.till,zI c.AO] 31)) h.heap.size 31 #[zI c.kind,zU c.Aq,.string c.Ad,.slice (some br) c.Bl.length k,zI c.BX,zI c.till,zI c.AO]):=Lh (AX.new h _ _);have C:=Lh ((T0 h).alloc (.cells #[zI c.kind,zU c.Aq,.string c.Ad,.slice (some br) c.Bl.length k,zI c.BX,zI c.till,zI c.AO] 31));have aj:Hid (Dt (h.alloc (.cells #[zI c.kind,zU c.Aq,.string c.Ad,.slice (some br) c.Bl.length k,zI c.BX,zI c.till,zI c.AO] 31)) (some (zA h.heap.size 0)) [(⟨c,some br,k⟩:Ed)]):=Lh ⟨Yu (V:=Gy) ar.out rfl,fun z E=>by rw[Ai.1 E];exact ai.out.AB C.out⟩;have ac:Hid (∀ W,Au (h.alloc (.cells #[zI c.kind,zU c.Aq,.string c.Ad,.slice (some br) c.Bl.length k,zI c.BX,zI c.till,zI c.AO] 31)) W->Calls Tryz.prog 63 #[.agg #[zI 5,zU 0,zO,zO,zO,zO,zO,zN,zO,zO,zE,zS h.heap.size 0 1 1]] W (Rt (.tuple #[.string (Dy (Gp [c])),zO]) (Au W))):=Lh fun W (q:Au (h.alloc (.cells #[zI c.kind,zU c.Aq,.string c.Ad,.slice (some br) c.Bl.length k,zI c.BX,zI c.till,zI c.AO] 31)) W)=>PS (some (zA h.heap.size 0)) 1 [(⟨c,some br,k⟩:Ed)] W (fun z E=>by rw[Ai.1 E];exact t.out) (by simp) (aj.out.AB q)
 have ad:=Lh fun(W:Bc) (p:List Eb) (bt:Nat->Nat) (m:ED p W bt) (r:p[0]?= some (Dr wd))=>Mf (x:=x) m r ah.out 0 1 (Dy (Gp [c]))
 have ak:=Lh (J.out.AB C.out);have ao:=Lh (an.out.AB C.out);have aa:(cs.set 1 (Eg wd.kb (Led.Qw S c.Aq (Dy (Db c))).2 M []))[0]?= some (Dr wd):=FX u.out (by omega);have au:=Lh aa;clear aa;go_wp2_with (first
  |(refine AA rfl (.tmp 7) rfl rfl L.out.BR Tryz.underlying31 rfl Cg ?_)
  |(go_at_call 63;refine(ac.out _ (Aa _ _)).mono ?_;rintro l bp ⟨rfl,j⟩;have al:=Lh (ak.out.AB j);have ap:=Lh (ao.out.AB j);clear j)
  |(go_at_call 36;refine(ad.out _ _ _ al.out au.out).mono ?_;rintro l bq ⟨rfl,bb,Q,T⟩;have am:=Lh Q;have aq:=Lh (ap.out.trans T);clear Q T))
 go_end0;exact⟨rfl,_,UG t.out.sk bu.out,bb,am.out,aq.out⟩
end

structure IZ where
 wd:GL
 S:List Led.Vl
 M:List Led.Made
 d0:Fb
 L0:List Ca
 d1:Fb
 L1:List Ca
 E:List (Int × List BB × Int)
 uses:Int
 Y:List (Iu × Int)
 num:Nat
 half:Nat
 b0:Nat
 b:Nat
 mt:Nat
 mb:Nat
def IZ.cs (s:IZ):List Eb:=parts (Dr s.wd) (Eg s.wd.kb s.S s.M []) (Dv s.d0) (Dz s.b0 s.d0.st 60 s.L0) (Dv s.d1) (Dz s.b s.d1.st 60 s.L1) (Hy s.b s.d1.tb s.mt 8 s.E []) (EP s.d1.ca s.mb 40 s.uses s.Y) (FZ s.wd.d1 s.d1.jp s.num s.half)
structure NG (s:IZ):Prop where
 n0:s.wd.n0=some s.d0.nb
 n1:s.wd.n1=some s.d1.nb
 k0:s.d0.kb=s.wd.kb
 k1:s.d1.kb=s.wd.kb
 OI:s.d0.num=0
 NW:s.d1.num=1
 aN:s.d0.key=8293
 X5:s.d0.Kh=0
 oP:s.d1.Kh=0
 WQ:s.d0.boot=1
 QM:s.d1.boot=1
 ok0:s.L0=[Dx 0 0 1]
 ok1:∀ c∈s.L1,Cn c
section
variable {w w' W:Bc} {x:Option Nat} {cs:List Eb} {o:Nat->Nat} {wd:GL} {s:IZ} {c:Ca}
theorem WP {j b t e:Nat} {f:Int} {E:List (Int × List BB × Int)} {c:List Int} (d:ED cs w o) (ht:cs[j]?= some (Hy b t e f E c)):b<=w.heap.size:=by
 obtain⟨g,_,a,_⟩:=d.table ht;exact AV a.ge (Nat.le_of_lt a.lt.1)
theorem pY (P:List Eb->Prop) (l:Int × Int × BB) (c:ED cs w o) (s:cs[0]?= some (Dr wd)) (k:wd.L=[l])
  (h:∀ W,Au w W->Calls Tryz.prog 30 #[zP wd.wb,zI 8,zO] W (Za (fun W w'=>∃ cs',P cs'/\FE x cs' o W w') W)) :
  Calls Tryz.prog 9 #[zP wd.wb,.agg #[zI 8,zO,zO,zO,zO,zO,zO,zN,zO,zU 0,zE,zN,zO,zO,zO,zU 0,zE,zE,zN]] w (Rt (.tuple #[]) fun w'=>∃ cs',P cs'/\FE x cs' o w w'):=by
 obtain⟨z,d,_,r⟩:=c.p 0 _ s;have f:=r.1;rw[k] at f;obtain⟨g,t,rfl⟩:=BD f;refine(Mx wd.wb 8 0 0 0 0 zO (zU 0) (zE) (zN) zO zO zO (fun W w'=>∃ cs',P cs'/\FE x cs' o W w') w d.lt (by simp) (by simp) (fun _=>⟨g,t,d.cell 10⟩) (fun _ _ a=>by simp at a) (fun _ _ a=>by simp at a) (fun W b _=>h W b) ?_ fun _ _ a=>by simp at a).mono ?_
 ·rintro _ W w' i A b ⟨cs',_,y,_,n⟩ p e;exact e.Ab n.t fun q=>q ⟨c.z i p,fun u _=>G5.not e (by decide) (by decide)⟩
 ·rintro v w' ⟨rfl,W,b,cs',m,j⟩;exact⟨rfl,cs',m,j.after b⟩
theorem Vy (d:Cn c):(Dy (Gp [c])).size<=4000:=by
 rw[E5];have a:=JF (L:=[c]) (by intro f e;rw[Ai.1 e];exact d);have g:=BS (n:=5) (by omega);have b:=BS (n:=[c].length) (by simp);unfold Gp Gq;rw[Ap,Ap];simp only[Cv] at a b ⊢;omega
theorem ZO (h:ED s.cs w o) (e:NG s) (k:s.wd.L=[(0,1,Dy (Gp [c]))]) (d:Cn c) (y:(c.Aq,Dy (Db c))∈s.S) (C:s.L1.length<20) :
  Calls Tryz.prog 9 #[zP s.wd.wb,.agg #[zI 8,zO,zO,zO,zO,zO,zO,zN,zO,zU 0,zE,zN,zO,zO,zO,zU 0,zE,zE,zN]] w (Rt (.tuple #[]) fun w'=>FE x ({s with wd:={s.wd with L:=[]},L1:=Jw s.L1 c}:IZ).cs o w w'):=by
 refine(pY (x:=x) (fun b=>b=({s with wd:={s.wd with L:=[]},L1:=Jw s.L1 c}:IZ).cs) _ h rfl k fun W p=>Mt (fun b=>b=({s with wd:={s.wd with L:=[]},L1:=Jw s.L1 c}:IZ).cs) 1 s.d1.nb 0 _ (h.AB p) rfl k (by omega) (fun W l a=>Oi a rfl e.n1) fun W l a=>?_).mono ?_
 ·have t:0<c.Bl.length:=by have:=(Cm d.set).1;omega
  have ht:=Wx (c:=c) (fr:=0) (body:=Dy (Gp [c])) (jn:=4) (d:=s.d1) (Q:=fun W w'=>FE x ({s with wd:={s.wd with L:=[]},L1:=Jw s.L1 c}:IZ).cs l W w') t a rfl (by omega) (by omega) (by rw[e.NW];omega) (fun W=>VN [c] _ W (by intro m u;rw[Ai.1 u];exact d) (by simp) rfl (Vy d)) fun B g z r v ha=>?_
  ·rw[e.NW] at ht;refine ht.mono ?_;rintro n w' ⟨rfl,A,q,f⟩;exact⟨rfl,_,rfl,f.after q⟩
  ·have i:=a.AB r;exact Ls (x:=x) (jb:=1) (jn:=4) (js:=5) i rfl rfl rfl e.k1 rfl (by omega) c g z d v (by have:=a.z g.block ha;omega) (Led.aA.2 y) (WP (j:=6) i rfl) (by omega) (by omega)
 ·rintro n w' ⟨rfl,b,rfl,f⟩;exact⟨rfl,f⟩
structure Pf (ch nx op arg:Int) (cw:List BB) (y:DZ) (s s':IZ):Prop where
 ex:∃ ans C u' Y' er v n' h' y' M',gB s.d1 y cw arg s.L1 s.uses s.Y s.num ans C u' Y' er v n' h' y'/\Wrote s.M M' ((ch,1,nx,Dy (Fg ch nx er v)),1)/\s' = {s with wd:={s.wd with L:=[(1,0,Dy (Fg ch nx er v))]},M:=M',d1:={s.d1 with ob:=some y'},E:=[(ch,cw,nx)],uses:=u',Y:=Y',num:=n',half:=h'}
theorem gU {ch nx l op arg:Int} {cw:List BB} {y:DZ} (ba:ED s.cs w o) (a:NG s) (G:s.wd.L=[(0,1,Dy (F8 ch nx op arg))]) (O:s.E=[(ch,cw,l)]) (ag:s.d1.ob=some y) (z:Ey ch) (F:ch/8192=2) (al:G9 y) (am:y.op=op) (ha:G8 op arg) (ab:s.L1.length<=20) (bc:D9 cw=true) (Z:∀ q∈cw,q.size<=16) (ad:∀ q∈s.Y,q.1.turn<(s.L1.length:Int)) (aw:s.uses<=1000) (U:s.Y.length<=100) (J:0<=nx) (hs1:nx<=1000) (ai:l<nx) (ak:y.value+arg<=1000000) (ac:(FM 1 (some (y.add arg))).length<=32) (af:s.num+1<256) (aa:s.half<=1) (S:s.M.length<1000) (ae:((ch,0,nx,Dy (F8 ch nx op arg)),0)∈s.M) :
  Calls Tryz.prog 9 #[zP s.wd.wb,.agg #[zI 8,zO,zO,zO,zO,zO,zO,zN,zO,zU 0,zE,zN,zO,zO,zO,zU 0,zE,zE,zN]] w (Rt (.tuple #[]) fun w'=>∃ i,Pf ch nx op arg cw y s i/\FE (some s.b) i.cs o w w'):=by
 refine(pY (x:=some s.b) (fun p=>∃ i,Pf ch nx op arg cw y s i/\p=i.cs) _ ba rfl G fun W P=>?_).mono ?_
 ·refine(Xy (x:=some s.b) (fun p A=>∃ n m j f c e h g k b,gB s.d1 y cw arg s.L1 s.uses s.Y s.num n m j f c e h g k/\Wrote s.M b ((ch,1,nx,Dy (Fg ch nx c e)),1)/\A=(1,0,Dy (Fg ch nx c e))/\p=({s with wd:={s.wd with L:=[]},M:=b,d1:={s.d1 with ob:=some k},E:=[(ch,cw,nx)],uses:=j,Y:=f,num:=h,half:=g}:IZ).cs) 1 s.d1.nb 0 _ (ba.AB P) rfl G (by omega) (fun W B r=>Oi r rfl a.n1) ?_ fun W B r=>?_).mono ?_
  ·rintro p A ⟨_,_,_,_,_,_,_,_,_,_,_,_,_,rfl⟩;rfl
  ·have aj:(Dy (F8 ch nx op arg)).size<=4000:=AV (QN z hs1 ha) (by omega);have V:=a.QM;have N:ED (parts (Dr {s.wd with L:=[]}) (Eg s.d1.kb s.S s.M []) (Dv s.d0) (Dz s.b0 s.d0.st 60 s.L0) (Dv s.d1) (Dz s.b s.d1.st 60 s.L1) (Hy s.b s.d1.tb s.mt 8 [(ch,cw,l)] []) (EP s.d1.ca s.mb 40 s.uses s.Y) (FZ s.wd.d1 s.d1.jp s.num s.half)) W B:=by
    rw[a.k1,<- O];exact r
   have ht:=YH (ch:=ch) (seq:=nx) (op:=op) (arg:=arg) (fr:=0) (body:=Dy (F8 ch nx op arg)) (jn:=4) (d:=s.d1) (QV:=fun W L w'=>nR (Dr {s.wd with L:=[]}) (Dv s.d0) (Dz s.b0 s.d0.st 60 s.L0) s.S s.M [] s.b s.mt s.mb s.wd.d1 s.num s.half 60 8 40 s.uses ch nx arg 0 cw s.Y s.L1 s.d1 y W B (.returned L) w') r rfl (by omega) (by omega) (by rw[a.NW];omega) (fun W=>XP ch nx op arg _ W z F J hs1 ha rfl aj) fun aq R=>?_
   ·rw[a.NW] at ht;refine ht.mono ?_;rintro u w' ⟨ap,L,rfl,Q,n,m,j,f,c,e,h,g,k,b,D,K,bb,hq,t,I,T,H⟩;cases bb;rw[a.NW] at t H;rw[show Eg s.d1.kb s.S b []=Eg s.wd.kb s.S b [] from by rw[a.k1]] at I;exact⟨D,rfl,_,_,K,⟨n,m,j,f,c,e,h,g,k,b,hq,t,rfl,rfl⟩,I,T.after Q,H⟩
   ·refine(Vx (y:=0) rfl rfl rfl (N.AB R) ag (by omega) (by omega) z al am ha a.ok1 ab bc Z ad (by omega) U (by omega) J ai ak (by rw[V];exact ac) af aa hs1 F (by rw[a.NW];omega) (by rw[a.NW];omega) S ae).mono ?_;intro u w' hq;have ah:=hq;obtain⟨n,m,j,f,c,e,h,g,k,b,D,K,rfl,_⟩:=ah;exact⟨_,rfl,hq⟩
  ·rintro u w' ⟨rfl,p,A,⟨n,m,j,f,c,e,h,g,k,b,hq,t,rfl,rfl⟩,v⟩;exact⟨rfl,_,⟨_,⟨⟨n,m,j,f,c,e,h,g,k,b,hq,t,rfl⟩⟩,rfl⟩,v⟩
 ·rintro u w' ⟨rfl,p,⟨i,X,rfl⟩,v⟩;exact⟨rfl,i,X,v⟩
theorem ZQ {ch nx l2 op arg er v:Int} (i:ED s.cs w o) (c:NG s) (k:s.wd.L=[(1,0,Dy (Fg ch nx er v))]) (hC:s.d0.C=[(ch,nx,op,arg)]) (m:s.d0.L=[(ch,1,l2)]) (B:s.d0.R.length<=100) (A:s.M.length<=2000) (D:((ch,1,nx,Dy (Fg ch nx er v)),1)∈s.M) (f:Ey ch) (j:ch/8192=2) (n:0<=nx) (hs1:nx<=1000) (l:0<=er) (g:er<=100) (p:0<=v) (h:v<=1000000) :
  Calls Tryz.prog 9 #[zP s.wd.wb,.agg #[zI 8,zO,zO,zO,zO,zO,zO,zN,zO,zU 0,zE,zN,zO,zO,zO,zU 0,zE,zE,zN]] w (Rt (.tuple #[]) fun w'=>FE x ({s with wd:={s.wd with L:=[]},d0:={s.d0 with C:=[],R:=s.d0.R++[(ch,nx,er,v)]}}:IZ).cs o w w'):=by
 refine(pY (x:=x) (fun a=>a=({s with wd:={s.wd with L:=[]},d0:={s.d0 with C:=[],R:=s.d0.R++[(ch,nx,er,v)]}}:IZ).cs) _ i rfl k fun W t=>Mt (fun a=>a=({s with wd:={s.wd with L:=[]},d0:={s.d0 with C:=[],R:=s.d0.R++[(ch,nx,er,v)]}}:IZ).cs) 0 s.d0.nb 1 _ (i.AB t) rfl k (by omega) (fun W q b=>Kc b rfl c.n0) fun W q b=>?_).mono ?_
 ·have E:(Dy (Fg ch nx er v)).size<=4000:=AV (Qo f hs1 g h) (by omega);have ht:=Wy (ch:=ch) (seq:=nx) (er:=er) (v:=v) (fr:=1) (body:=Dy (Fg ch nx er v)) (jn:=2) (d:=s.d0) (Q:=fun W w'=>FE x ({s with wd:={s.wd with L:=[]},d0:={s.d0 with C:=[],R:=s.d0.R++[(ch,nx,er,v)]}}:IZ).cs q W w') b rfl (by omega) (by omega) (by rw[c.OI];omega) (fun W=>VO ch nx er v _ W f j n hs1 l g p h rfl E) fun G z=>?_
  ·rw[c.OI] at ht;refine ht.mono ?_;rintro r w' ⟨rfl,F,u,e⟩;exact⟨rfl,_,rfl,e.after u⟩
  ·exact U6 (x:=x) (jb:=1) (jn:=2) (y:=1) (b.AB z) rfl rfl c.k0 hC (by rw[m];simp) B (by rw[m];unfold IL;rw[AQ rfl]) A D f j n hs1 l g p h
 ·rintro r w' ⟨rfl,a,rfl,e⟩;exact⟨rfl,e⟩
theorem Yg {ch:Int} {L:List Ca} (a:∀ c∈L,Cn c) (b:Ey ch) (h:L.length<=8):(Dy (Hm ch L)).size<=4000:=by
 rw[E5];have d:=JF a;have e:=BS (n:=1) (by omega);have f:=BS (n:=L.length) (by omega);have g:=BS (n:=ch.toNat) (by have:=b.2;omega);unfold Hm Gq;rw[Ap,Ap,Ap];omega
theorem ZP {L:List Ca} (r:ED s.cs w o) (e:NG s) (v:s.wd.L=[(0,1,Dy (Hm 16435 L))]) (J:s.E=[]) (l:∀ c∈L,Cn c) (T:∀ c∈L,(c.Aq,Dy (Db c))∈s.S) (I:∀ c∈L,c.kind=3->c.Ad=C8 [16435]/\c.Aq=8293/\c.AO=4) (O:∃ c∈L,c.kind=3) (B:L.length<=8) (aa:s.L1.length<=20) :
  Calls Tryz.prog 9 #[zP s.wd.wb,.agg #[zI 8,zO,zO,zO,zO,zO,zO,zN,zO,zU 0,zE,zN,zO,zO,zO,zU 0,zE,zE,zN]] w (Rt (.tuple #[]) fun w'=>FE (some s.b) ({s with wd:={s.wd with L:=[]},L1:=Lm s.L1 L,E:=[(16435,[C8 [16435]],-1)]}:IZ).cs o w w'):=by
 refine(pY (x:=some s.b) (fun g=>g=({s with wd:={s.wd with L:=[]},L1:=Lm s.L1 L,E:=[(16435,[C8 [16435]],-1)]}:IZ).cs) _ r rfl v fun W K=>Mt (fun g=>g=({s with wd:={s.wd with L:=[]},L1:=Lm s.L1 L,E:=[(16435,[C8 [16435]],-1)]}:IZ).cs) 1 s.d1.nb 0 _ (r.AB K) rfl v (by omega) (fun W ac f=>Oi f rfl e.n1) fun W ac f=>?_).mono ?_
 ·have C:Ey 16435:=⟨by omega,by omega⟩
  have H:ED (parts (Dr {s.wd with L:=[]}) (Eg s.wd.kb s.S s.M []) (Dv s.d0) (Dz s.b0 s.d0.st 60 s.L0) (Dv s.d1) (Dz s.b s.d1.st 60 s.L1) (Hy s.b s.d1.tb s.mt 8 [] []) (EP s.d1.ca s.mb 40 s.uses s.Y) (FZ s.wd.d1 s.d1.jp s.num s.half)) W ac:=by
   rw[<- J];exact f
  have ht:=YI (ch:=16435) (L:=L) (fr:=0) (body:=Dy (Hm 16435 L)) (jn:=4) (d:=s.d1) (Q:=fun W w'=>FE (some s.b) ({s with wd:={s.wd with L:=[]},L1:=Lm s.L1 L,E:=[(16435,[C8 [16435]],-1)]}:IZ).cs ac W w') f rfl (by omega) (by omega) (by rw[e.NW];omega) (fun W=>XQ 16435 L _ W C (by omega) l B rfl (Yg l C B)) fun Y D V m N z A h=>?_
  ·rw[e.NW] at ht;refine ht.mono ?_;rintro G w' ⟨rfl,X,M,n⟩;exact⟨rfl,_,rfl,n.after M⟩
  ·have t:=H.AB N;have U:L.length=m.length:=by rw[<- h,Be]
   have k:∀ a∈m,a.c∈L:=fun a b=>by rw[<- h];exact Di b
   rw[U,<- h];refine Wh (jb:=1) (jn:=4) (js:=5) (jt:=6) (i:=0) (bt:=1) (sq:=0) (zI 1) zO zO zO zO zO (zN) zO zO (zE) D V m t rfl rfl rfl rfl (Ry rfl rfl rfl rfl rfl rfl rfl rfl) e.k1 rfl rfl (by omega) (by omega) (by omega) (by omega) ⟨by omega,by omega,by omega,by omega,by omega,by omega,by omega⟩ ⟨z,fun F ha=>f.z _ (A.1 F ha),fun a b=>?_,fun a b=>l _ (k a b),fun a b=>Led.aA.2 (T _ (k a b))⟩ (fun a b p=>?_) ?_ (by rw[e.QM];omega) (by rw[e.QM];omega) (by rw[e.NW];omega) (by rw[e.NW];omega) (WP (j:=6) t rfl) (by omega) (by omega) (by omega)
   ·have S:=z.s a b;have R:0<a.c.Bl.length:=by have:=(Cm (l _ (k a b)).set).1;omega
    obtain⟨Z,q,u,P,_⟩:=S 0 R;exact⟨_,u,f.z _ (A.2 a b _ u),P⟩
   ·have:=I _ (k a b) p;rw[e.QM,e.NW];exact⟨this.1,by rw[this.2.1];omega,by rw[this.2.2];omega⟩
   ·obtain⟨c,y,p⟩:=O;rw[<- h] at y;obtain⟨a,b,rfl⟩:=Bp.1 y;exact F6.2 ⟨a,b,BH p⟩
 ·rintro G w' ⟨rfl,g,rfl,n⟩;exact⟨rfl,n⟩
end

end Go.Proofs.YtcjcndnjpedniaaGreat
