/- A part of the proof of TopUsers. -/
import Derived.Test.YtcjcndnjpedniaaGreatB26
namespace Go.Proofs.YtcjcndnjpedniaaGreat
set_option linter.all false
set_option maxRecDepth 100000
set_option maxHeartbeats 8000000
open Go.RowKit
section
namespace Led
open Go.Maps (Keyed)
theorem SjAt {P:Program} {k t e:TypeId} {w:Bc} {b:Nat} {l:List (Value × Value)} {a:Value} (d:Cw w P k b l) (c:Keyed P k) (ht:P.underlying t=some (.map k e)) (j:MO P k a) (m:∀ p∈l,p.1≠a) (v:Value) :
  ∃ w2,(Instr.mapUpdate t (.map (some b)) a v).run P w= .ok () w2/\Cw w2 P k b (l++[(a,v)])/\Am (fun i=>i=b) w w2:=by
 obtain⟨n,f,h⟩:=d.Nv c ht j m v;exact⟨_,f,h,(Aa (fun i=>i=b) w).setBlock (g:=b) (fun _=>rfl) n⟩
theorem Nz {a : Type} {cs:Array a} {i:Nat} {v:a} (b:cs[i]?= some v):cs.setIfInBounds i v=cs:=by
 apply Array.ext_getElem?;intro c;rw[Array.getElem?_setIfInBounds];split
 ·subst_vars;split<;>simp_all
 ·rfl
theorem results_none {a:Func} (b:a.results=#[]) (tmps:Array Value) (P:Program) (w:Bc):(results a tmps).run P w= .ok (.tuple #[]) w:=by simp[results,b]
structure EC (w:Bc) (P:Program) (k size:Nat) (sv mv:Value) (xs:List Value):Prop where
 own:w.ownsRow 0 k size sv xs.length (xs.flatMap (·.cells.toList))
 set:Ii w P k mv xs
theorem EC.Ab {S:Nat->Prop} {P:Program} {k size:Nat} {w w':Bc} {c a:Value} {xs:List Value} (d:EC w P k size c a xs) (e:Am S w w') (h:∀ g,c.ownBlock=some g->¬S g) (f:∀ b,a= .map (some b)->¬S b):EC w' P k size c a xs :=
 ⟨Aj d.own e h,d.set.Ab e f⟩
def SL (P:Program) (k size p t g:Nat) (cs:Array Value) (h f:Value) (xs:List Value) (x:Value) (w w':Bc):Prop :=
 ∃ e d,AX w' p t ((cs.setIfInBounds g e).setIfInBounds (g+1) d)/\EC w' P k size e d (xs++[x])/\Am (fun c=>c=p∨h.ownBlock=some c∨f= .map (some c)) w w' /\
  (∀ b,e.ownBlock=some b->h.ownBlock=some b∨w.heap.size<=b)/\(∀ a,d= .map (some a)->f= .map (some a)∨w.heap.size<=a)
theorem MR {P:Program} {k size p T e:Nat} {cs:Array Value} {d g x:Value} {b:Nat} {xs v:List Value} {w w2 f:Bc} {y:Obj} {c cap:Nat} (H:0<size) (t:T≠k)
  (u:Am (fun i=>i=p∨g= .map (some i)) w w2) (m:AX w2 p T (cs.setIfInBounds (e+1) (.map (some b)))) (C:g= .map (some b)∨w.heap.size<=b) (G:p≠b)
  (q:w2.ownsRow 0 k size d xs.length (xs.flatMap (·.cells.toList))) (o:Cw w2 P k b (xs.map (fun x=>(x,.agg #[]))++[(x,.agg #[])])) (hx:x.cells.toList=v)
  (l:(w2.alloc y).drew.grownBy f d.ownBlock) (r:f.ownsRow 0 k size (zS c 0 (xs.length+1) cap) (xs.length+1) (xs.flatMap (·.cells.toList)++v)) (B:d.ownBlock=some c∨c=w2.heap.size+1) :
  SL P k size p T e cs d g xs x w (f.setCell (zA p e) (zS c 0 (xs.length+1) cap)):=by
 have z:d.ownBlock≠some p:=Ba q m (BZ t);have n:AX f p T _:=(m.alloc _).drew.grown l (BZ z);have A:Am (fun i=>i=p∨d.ownBlock=some i∨g= .map (some i)) w f:=((u.mono fun _ _ a=>a.imp id .inr).alloc _).drew.grown l fun k a _=>.inr (.inl a)
 refine⟨zS c 0 (xs.length+1) cap,.map (some b),?_,⟨?_,.inr ⟨b,rfl,?_⟩⟩,?_,?_,?_⟩
 ·have:=n.Dw e (zS c 0 (xs.length+1) cap);rw[Array.setIfInBounds_comm _ _ (by omega)] at this;exact this
 ·have F:c≠p:=fun h=>Ba r n (BZ t) (by rw[h];rfl)
  rw[Fw];simp only[Ap,Cv,CY,List.flatMap_nil,Dc,hx];exact Aj r ((Aa (fun i=>i=p) f).setCell (p:=zA p e) (fun _=>rfl) _) fun s j h=>F (by subst h;simpa [Value.ownBlock] using j)
 ·have D:d.ownBlock≠some b:=o.own_ne q;have E:Cw f P k b _:=(o.alloc _).drew.Ab ((Aa (fun i=>d.ownBlock=some i) _).grown l fun _ a _=>a) D;rw[Bw];exact E.far (p:=zA p e) G _
 ·exact A.setCell (p:=zA p e) (fun _=>.inl rfl) _
 ·intro s j;have:c=s:=by simpa [Value.ownBlock] using j
  subst this;rcases B with a|a
  ·exact .inl a
  ·exact .inr (by have:=u.size;omega)
 ·intro I a;cases a;exact C
theorem TP:(Tryz.prog.info? 215).map (fun i=>(i.zero,i.size,i.bytes))=some (some (.agg #[zU 0,zE]),2,24):=by kernel_rfl
theorem UF (p c:Nat) (b:Value) (xs:List Value) (a:Int) (s:BB) (w:Bc) (d:Cl w p (c+1) b)
  (f:Ii w Tryz.prog 215 b xs) (e:(.agg #[zU a,.string s]:Value)∈xs) (hk:MO Tryz.prog 215 (.agg #[zU a,.string s])) :
  Calls Tryz.prog 155 #[.pointer (some (zA p c)),.agg #[zU a,.string s]] w (Rt (.tuple #[]) (Au w)):=by
 have i:=World.block_lt_of_cell? w _ d;go_in;go_wp2_with fail;refine(La p c b xs a s _ true ((World.cell?_alloc_lt _ _ _ i).trans d) (f.alloc _) (by simpa using e) hk).mono ?_;rintro j k ⟨rfl,h⟩;clear e hk f;go_wp2;refine bodyPost_ret (results_none rfl _ _ _) rfl ⟨rfl,((Aa _ w).alloc _).AJ h fun _ _ g=>g⟩
theorem Sv (p d:Nat) (T:TypeId) (cs:Array Value) (f:Value) (b:Nat) (xs:List Value) (c:Int) (s:BB) (w:Bc) (D:T≠215) (o:AX w p T cs) (C:cs[d]?= some f) (v:cs[d+1]?= some (.map (some b)))
  (q:EC w Tryz.prog 215 2 f (.map (some b)) xs) (y:(.agg #[zU c,.string s]:Value)∉xs) (hk:MO Tryz.prog 215 (.agg #[zU c,.string s])) (aq:xs.length<3000) :
  Calls Tryz.prog 155 #[.pointer (some (zA p d)),.agg #[zU c,.string s]] w (Rt (.tuple #[]) fun w'=>SL Tryz.prog 215 2 p T d cs f (.map (some b)) xs (.agg #[zU c,.string s]) w w'):=by
 obtain⟨ab,R,Y,Z,aa⟩:=info_parts TP;have G:=o.lt;have E:Cl w p (d+1) (.map (some b)):=(o.cell _).trans v;go_in;go_wp2_with fail;refine(La p d (.map (some b)) xs c s _ false ((World.cell?_alloc_lt _ _ _ G).trans E) (q.set.alloc _) (by simpa using y) hk).mono ?_;rintro n av ⟨rfl,x⟩;have k:Au w av:=((Aa _ w).alloc _).AJ x fun _ _ a=>a
 have i:AX av p T cs:=o.Ab k id;have m:AX av w.heap.size 215 #[zU c,.string s]:=(AX.new w _ _).Ab x id;have ac:Cl av w.heap.size 0 (zU c):=m.cell _;have ad:Cl av w.heap.size 1 (.string s):=m.cell _;have an:=i.lt;have B:av.ownsRow 0 215 2 f xs.length (xs.flatMap (·.cells.toList)):=Aj q.own k fun _ _ a=>a
 have U:=fun L=>run_eql_map_nil (P:=Tryz.prog) L _ _ _ (some b) Tryz.underlying118
 have N:Cl av p (d+1) (.map (some b)):=(i.cell _).trans v;have j:Cw av Tryz.prog 215 b (xs.map fun I=>(I,.agg #[])):=by
  rcases(q.set.Ab k fun _ _ a=>a) with⟨a,_⟩|⟨af,a,S⟩
  ·cases a
  ·cases a;exact S
 obtain⟨e,W,J,l⟩:=SjAt j.drew OP Tryz.underlying118 hk (by intro p V n;obtain⟨I,hx,rfl⟩:=Bp.1 V;exact y (n ▸ hx)) (.agg #[]);have H:p≠b:=j.Ee i;have h:AX e p T cs:=i.drew.Ab l H;have X:w.heap.size≠b:=j.Ee m;have u:AX e w.heap.size 215 #[zU c,.string s]:=m.drew.Ab l X;have r:e.ownsRow 0 215 2 f xs.length (xs.flatMap (·.cells.toList)):=Aj B.drew l fun g Q n=>j.own_ne B (n ▸ Q)
 have ah:Cl e p d f:=(h.cell _).trans C;have ar:Cl e w.heap.size 0 (zU c):=u.cell _;have au:Cl e w.heap.size 1 (.string s):=u.cell _;have ak:e.frozen? (zA p d)=false:=h.frozen _;have M:f.ownBlock≠some p:=Ba r h (BZ D);have ao:=h.lt;have ae:w.heap.size<e.heap.size:=u.lt;clear q y hk E G o x;go_wp2_with fail;go_region;clear W N U ac ad;go_wp2_with fail;go_region_law (refine step_append_lies _ (by rfl) _ _ _ (by rfl) 0 215 ab _ 2 24 Tryz.underlying117 R Y Z aa rfl (by omega) f xs.length _ (by rfl) ((r.alloc _).drew) (zA e.heap.size 0) 1 1 [zU c,.string s] (by rfl) (by rfl) (World.news_of_block (cs:=#[zU c,.string s]) (t:=215) (fr:=(0,0)) (heap_alloc_new e _)) (by simp[Value.oneCell']) (by omega) (by unfold maxLen;omega) (by omega) (EN _) (e.heap.size+1) (by simp) ?_;intro am ag z K F O ap;have A:AX z p T _:=(h.alloc _).drew.grown F (BZ M);have ai:Cl z p d f:=(A.cell _).trans C;have aj:z.frozen? (zA p d)=false:=A.frozen _)
 all_goals go_end0
 all_goals exact⟨rfl,MR (by decide) D ((k.mono fun _ _ a=>a.elim).drew.AJ l fun _ _ a=>.inr (by rw[a])) (by rw[Nz v];exact h) (.inl rfl) H r J rfl F K O⟩
theorem UE (p b:Nat) (T:TypeId) (cs:Array Value) (f:Value) (xs:List Value) (d:Int) (s:BB) (w:Bc) (x:T≠215) (m:AX w p T cs) (E:cs[b]?= some f) (F:cs[b+1]?= some (.map none))
  (n:EC w Tryz.prog 215 2 f (.map none) xs) (z:(.agg #[zU d,.string s]:Value)∉xs) (hk:MO Tryz.prog 215 (.agg #[zU d,.string s])) (bc:xs.length<3000) :
  Calls Tryz.prog 155 #[.pointer (some (zA p b)),.agg #[zU d,.string s]] w (Rt (.tuple #[]) fun w'=>SL Tryz.prog 215 2 p T b cs f (.map none) xs (.agg #[zU d,.string s]) w w'):=by
 obtain⟨ai,Z,af,ag,ah⟩:=info_parts TP;have I:=m.lt;have G:Cl w p (b+1) (.map none):=(m.cell _).trans F;have aa:=@run_makeMap Tryz.prog;go_in;go_wp2_with fail;refine(La p b (.map none) xs d s _ false ((World.cell?_alloc_lt _ _ _ I).trans G) (n.set.alloc _) (by simpa using z) hk).mono ?_;rintro j a ⟨rfl,v⟩;have i:Au w a:=((Aa _ w).alloc _).AJ v fun _ _ c=>c
 have h:AX a p T cs:=m.Ab i id;have l:AX a w.heap.size 215 #[zU d,.string s]:=(AX.new w _ _).Ab v id;have aj:Cl a w.heap.size 0 (zU d):=l.cell _;have ak:Cl a w.heap.size 1 (.string s):=l.cell _;have az:=h.lt;have o:a.ownsRow 0 215 2 f xs.length (xs.flatMap (·.cells.toList)):=Aj n.own i fun _ _ c=>c
 have ab:=fun S=>run_eql_map_nil (P:=Tryz.prog) S _ _ _ none Tryz.underlying118
 have V:Cl a p (b+1) (.map none):=(h.cell _).trans F;have W:a.frozen? (zA p (b+1))=false:=h.frozen _;have A:xs=[]:=by
  rcases n.set with⟨_,c⟩|⟨ap,c,_⟩
  ·exact c
  ·cases c
 have J:p≠a.heap.size:=by omega
 have D:(a.setCell (zA p (b+1)) (.map (some a.heap.size))).heap.size=a.heap.size:=by simp[World.setCell]
 have N:Cw ((a.setCell (zA p (b+1)) (.map (some a.heap.size))).alloc (.map #[] 0)) Tryz.prog 215 a.heap.size (xs.map fun L=>(L,.agg #[])):=by
  have c:=Cw.new (a.setCell (zA p (b+1)) (.map (some a.heap.size))) Tryz.prog 215;rw[D] at c;rw[A];exact c
 clear D;have an:=Lh A;clear A;obtain⟨e,ad,O,k⟩:=SjAt N.drew OP Tryz.underlying118 hk (by intro p ac j;obtain⟨L,hx,rfl⟩:=Bp.1 ac;exact z (j ▸ hx)) (.agg #[]);have M:=(h.Dw (b+1) (.map (some a.heap.size))).alloc (.map #[] 0);have g:AX e p T (cs.setIfInBounds (b+1) (.map (some a.heap.size))):=M.drew.Ab k J;have ae:w.heap.size≠a.heap.size:=fun c=>by have:=l.lt;omega
 have r:=(l.far (p:=zA p (b+1)) (show w.heap.size≠p by omega) (.map (some a.heap.size))).alloc (.map #[] 0);have al:((a.setCell (zA p (b+1)) (.map (some a.heap.size))).alloc (.map #[] 0)).cell? (zA w.heap.size 0)=some (zU d):=r.cell _;have am:((a.setCell (zA p (b+1)) (.map (some a.heap.size))).alloc (.map #[] 0)).cell? (zA w.heap.size 1)=some (.string s):=r.cell _;have u:AX e w.heap.size 215 #[zU d,.string s]:=r.drew.Ab k ae;have Q:=Aj o (((Aa (fun K=>K=p) a).setCell (p:=zA p (b+1)) (fun _=>rfl) (.map (some a.heap.size))).alloc (.map #[] 0)) fun X y j=>Ba o h (BZ x) (j ▸ y)
 have q:e.ownsRow 0 215 2 f xs.length (xs.flatMap (·.cells.toList)):=Aj (w:=(((a.setCell (zA p (b+1)) (.map (some a.heap.size))).alloc (.map #[] 0))).drew) Q k fun X y j=>by have:=Gd o y;omega
 have ar:Cl e p b f:=(g.cell _).trans (by rw[C9 (by omega)];exact E);have bd:Cl e w.heap.size 0 (zU d):=u.cell _;have be:Cl e w.heap.size 1 (.string s):=u.cell _;have aw:e.frozen? (zA p b)=false:=g.frozen _;have U:f.ownBlock≠some p:=Ba q g (BZ x);have ba:=g.lt;have ao:w.heap.size<e.heap.size:=u.lt;clear n z hk G I m v;go_wp2_with fail;go_region;clear ad V ab aj ak W aa al am;go_wp2_with fail;go_region_law (refine step_append_lies _ (by rfl) _ _ _ (by rfl) 0 215 ai _ 2 24 Tryz.underlying117 Z af ag ah rfl (by omega) f xs.length _ (by rfl) ((q.alloc _).drew) (zA e.heap.size 0) 1 1 [zU d,.string s] (by rfl) (by rfl) (World.news_of_block (cs:=#[zU d,.string s]) (t:=215) (fr:=(0,0)) (heap_alloc_new e _)) (by simp[Value.oneCell']) (by omega) (by unfold maxLen;omega) (by omega) (EN _) (e.heap.size+1) (by simp) ?_;intro ax aq B R H Y bb;have C:AX B p T _:=(g.alloc _).drew.grown H (BZ U);have au:Cl B p b f:=(C.cell _).trans (by rw[C9 (by omega)];exact E);have av:B.frozen? (zA p b)=false:=C.frozen _)
 all_goals go_end0
 all_goals exact⟨rfl,MR (by decide) x (((((i.mono fun _ _ c=>c.elim).setCell (p:=zA p (b+1)) (fun _=>.inl rfl) _).alloc _).drew).AJ k fun K ay c=>by have:=i.size;omega) g (.inr i.size) J q O rfl H R Y⟩
theorem Rb:(Tryz.prog.info? 223).map (fun i=>(i.zero,i.size,i.bytes))=some (some (.agg #[zU 0,zO,zO,zE,zO]),5,48):=by kernel_rfl
theorem Sd (p d:Nat) (c:Value) (xs:List Value) (a b sq:Int) (s:BB) (y:Int) (w:Bc) (e:Cl w p (d+1) c)
  (g:Ii w Tryz.prog 223 c xs) (f:(.agg #[zU a,zI b,zI sq,.string s,zI y]:Value)∈xs) (hk:MO Tryz.prog 223 (.agg #[zU a,zI b,zI sq,.string s,zI y])) :
  Calls Tryz.prog 163 #[.pointer (some (zA p d)),.agg #[zU a,zI b,zI sq,.string s,zI y]] w (Rt (.tuple #[]) (Au w)):=by
 have j:=World.block_lt_of_cell? w _ e;go_in;go_wp2_with fail;refine(KD p d c xs a b sq s y _ true ((World.cell?_alloc_lt _ _ _ j).trans e) (g.alloc _) (by simpa using f) hk).mono ?_;rintro k l ⟨rfl,i⟩;clear f hk g;go_wp2;refine bodyPost_ret (results_none rfl _ _ _) rfl ⟨rfl,((Aa _ w).alloc _).AJ i fun _ _ h=>h⟩
theorem QB (p e:Nat) (T:TypeId) (cs:Array Value) (h:Value) (b:Nat) (xs:List Value) (d bd sq:Int) (s:BB) (y:Int) (w:Bc) (F:T≠223) (r:AX w p T cs) (E:cs[e]?= some h) (x:cs[e+1]?= some (.map (some b)))
  (u:EC w Tryz.prog 223 5 h (.map (some b)) xs) (A:(.agg #[zU d,zI bd,zI sq,.string s,zI y]:Value)∉xs) (hk:MO Tryz.prog 223 (.agg #[zU d,zI bd,zI sq,.string s,zI y])) (ax:xs.length<3000) :
  Calls Tryz.prog 163 #[.pointer (some (zA p e)),.agg #[zU d,zI bd,zI sq,.string s,zI y]] w (Rt (.tuple #[]) fun w'=>SL Tryz.prog 223 5 p T e cs h (.map (some b)) xs (.agg #[zU d,zI bd,zI sq,.string s,zI y]) w w'):=by
 obtain⟨ad,U,aa,ab,ac⟩:=info_parts Rb;have I:=r.lt;have G:Cl w p (e+1) (.map (some b)):=(r.cell _).trans x;go_in;go_wp2_with fail;refine(KD p e (.map (some b)) xs d bd sq s y _ false ((World.cell?_alloc_lt _ _ _ I).trans G) (u.set.alloc _) (by simpa using A) hk).mono ?_;rintro q f ⟨rfl,z⟩;have n:Au w f:=((Aa _ w).alloc _).AJ z fun _ _ c=>c
 have l:AX f p T cs:=r.Ab n id;have i:AX f w.heap.size 223 #[zU d,zI bd,zI sq,.string s,zI y]:=(AX.new w _ _).Ab z id;have ae:Cl f w.heap.size 0 (zU d):=i.cell _;have af:Cl f w.heap.size 1 (zI bd):=i.cell _;have ag:Cl f w.heap.size 2 (zI sq):=i.cell _;have ah:Cl f w.heap.size 3 (.string s):=i.cell _;have ai:Cl f w.heap.size 4 (zI y):=i.cell _;have au:=l.lt;have D:f.ownsRow 0 223 5 h xs.length (xs.flatMap (·.cells.toList)):=Aj u.own n fun _ _ c=>c
 have W:=fun N=>run_eql_map_nil (P:=Tryz.prog) N _ _ _ (some b) Tryz.underlying122
 have Q:Cl f p (e+1) (.map (some b)):=(l.cell _).trans x;have m:Cw f Tryz.prog 223 b (xs.map fun K=>(K,.agg #[])):=by
  rcases(u.set.Ab n fun _ _ c=>c) with⟨c,_⟩|⟨ak,c,V⟩
  ·cases c
  ·cases c;exact V
 obtain⟨a,Y,L,o⟩:=SjAt m.drew Nj Tryz.underlying122 hk (by intro p X q;obtain⟨K,hx,rfl⟩:=Bp.1 X;exact A (q ▸ hx)) (.agg #[]);have J:p≠b:=m.Ee l;have j:AX a p T cs:=l.drew.Ab o J;have Z:w.heap.size≠b:=m.Ee i;have k:AX a w.heap.size 223 #[zU d,zI bd,zI sq,.string s,zI y]:=i.drew.Ab o Z;have v:a.ownsRow 0 223 5 h xs.length (xs.flatMap (·.cells.toList)):=Aj D.drew o fun g S q=>m.own_ne D (q ▸ S)
 have am:Cl a p e h:=(j.cell _).trans E;have ay:Cl a w.heap.size 0 (zU d):=k.cell _;have az:Cl a w.heap.size 1 (zI bd):=k.cell _;have ba:Cl a w.heap.size 2 (zI sq):=k.cell _;have bb:Cl a w.heap.size 3 (.string s):=k.cell _;have bc:Cl a w.heap.size 4 (zI y):=k.cell _;have ap:a.frozen? (zA p e)=false:=j.frozen _;have O:h.ownBlock≠some p:=Ba v j (BZ F);have av:=j.lt;have aj:w.heap.size<a.heap.size:=k.lt;clear u A hk G I r z;go_wp2_with fail;go_region;clear Y Q W ae af ag ah ai;go_wp2_with fail;go_region_law (refine step_append_lies _ (by rfl) _ _ _ (by rfl) 0 223 ad _ 5 48 Tryz.underlying121 U aa ab ac rfl (by omega) h xs.length _ (by rfl) ((v.alloc _).drew) (zA a.heap.size 0) 1 1 [zU d,zI bd,zI sq,.string s,zI y] (by rfl) (by rfl) (World.news_of_block (cs:=#[zU d,zI bd,zI sq,.string s,zI y]) (t:=223) (fr:=(0,0)) (heap_alloc_new a _)) (by simp[Value.oneCell']) (by omega) (by unfold maxLen;omega) (by omega) (EN _) (a.heap.size+1) (by simp) ?_;intro ar al B M H R aw;have C:AX B p T _:=(j.alloc _).drew.grown H (BZ O);have an:Cl B p e h:=(C.cell _).trans E;have ao:B.frozen? (zA p e)=false:=C.frozen _)
 all_goals go_end0
 all_goals exact⟨rfl,MR (by decide) F ((n.mono fun _ _ c=>c.elim).drew.AJ o fun _ _ c=>.inr (by rw[c])) (by rw[Nz x];exact j) (.inl rfl) J v L rfl H M R⟩
theorem Sc (p b:Nat) (T:TypeId) (cs:Array Value) (g:Value) (xs:List Value) (e f sq:Int) (s:BB) (y:Int) (w:Bc) (z:T≠223) (q:AX w p T cs) (G:cs[b]?= some g) (H:cs[b+1]?= some (.map none))
  (r:EC w Tryz.prog 223 5 g (.map none) xs) (B:(.agg #[zU e,zI f,zI sq,.string s,zI y]:Value)∉xs) (hk:MO Tryz.prog 223 (.agg #[zU e,zI f,zI sq,.string s,zI y])) (bk:xs.length<3000) :
  Calls Tryz.prog 163 #[.pointer (some (zA p b)),.agg #[zU e,zI f,zI sq,.string s,zI y]] w (Rt (.tuple #[]) fun w'=>SL Tryz.prog 223 5 p T b cs g (.map none) xs (.agg #[zU e,zI f,zI sq,.string s,zI y]) w w'):=by
 obtain⟨ak,ab,ah,ai,aj⟩:=info_parts Rb;have K:=q.lt;have I:Cl w p (b+1) (.map none):=(q.cell _).trans H;have ac:=@run_makeMap Tryz.prog;go_in;go_wp2_with fail;refine(KD p b (.map none) xs e f sq s y _ false ((World.cell?_alloc_lt _ _ _ K).trans I) (r.set.alloc _) (by simpa using B) hk).mono ?_;rintro n a ⟨rfl,x⟩;have m:Au w a:=((Aa _ w).alloc _).AJ x fun _ _ c=>c
 have l:AX a p T cs:=q.Ab m id;have h:AX a w.heap.size 223 #[zU e,zI f,zI sq,.string s,zI y]:=(AX.new w _ _).Ab x id;have al:Cl a w.heap.size 0 (zU e):=h.cell _;have am:Cl a w.heap.size 1 (zI f):=h.cell _;have an:Cl a w.heap.size 2 (zI sq):=h.cell _;have ao:Cl a w.heap.size 3 (.string s):=h.cell _;have ap:Cl a w.heap.size 4 (zI y):=h.cell _;have bh:=l.lt;have u:a.ownsRow 0 223 5 g xs.length (xs.flatMap (·.cells.toList)):=Aj r.own m fun _ _ c=>c
 have ad:=fun V=>run_eql_map_nil (P:=Tryz.prog) V _ _ _ none Tryz.underlying122
 have X:Cl a p (b+1) (.map none):=(l.cell _).trans H;have Y:a.frozen? (zA p (b+1))=false:=l.frozen _;have C:xs=[]:=by
  rcases r.set with⟨_,c⟩|⟨az,c,_⟩
  ·exact c
  ·cases c
 have L:p≠a.heap.size:=by omega
 have F:(a.setCell (zA p (b+1)) (.map (some a.heap.size))).heap.size=a.heap.size:=by simp[World.setCell]
 have Q:Cw ((a.setCell (zA p (b+1)) (.map (some a.heap.size))).alloc (.map #[] 0)) Tryz.prog 223 a.heap.size (xs.map fun N=>(N,.agg #[])):=by
  have c:=Cw.new (a.setCell (zA p (b+1)) (.map (some a.heap.size))) Tryz.prog 223;rw[F] at c;rw[C];exact c
 clear F;have ax:=Lh C;clear C;obtain⟨d,af,R,o⟩:=SjAt Q.drew Nj Tryz.underlying122 hk (by intro p ae n;obtain⟨N,hx,rfl⟩:=Bp.1 ae;exact B (n ▸ hx)) (.agg #[]);have O:=(l.Dw (b+1) (.map (some a.heap.size))).alloc (.map #[] 0);have i:AX d p T (cs.setIfInBounds (b+1) (.map (some a.heap.size))):=O.drew.Ab o L;have ag:w.heap.size≠a.heap.size:=fun c=>by have:=h.lt;omega
 have j:=(h.far (p:=zA p (b+1)) (show w.heap.size≠p by omega) (.map (some a.heap.size))).alloc (.map #[] 0);have aq:((a.setCell (zA p (b+1)) (.map (some a.heap.size))).alloc (.map #[] 0)).cell? (zA w.heap.size 0)=some (zU e):=j.cell _;have ar:((a.setCell (zA p (b+1)) (.map (some a.heap.size))).alloc (.map #[] 0)).cell? (zA w.heap.size 1)=some (zI f):=j.cell _;have au:((a.setCell (zA p (b+1)) (.map (some a.heap.size))).alloc (.map #[] 0)).cell? (zA w.heap.size 2)=some (zI sq):=j.cell _;have av:((a.setCell (zA p (b+1)) (.map (some a.heap.size))).alloc (.map #[] 0)).cell? (zA w.heap.size 3)=some (.string s):=j.cell _;have aw:((a.setCell (zA p (b+1)) (.map (some a.heap.size))).alloc (.map #[] 0)).cell? (zA w.heap.size 4)=some (zI y):=j.cell _;have k:AX d w.heap.size 223 #[zU e,zI f,zI sq,.string s,zI y]:=j.drew.Ab o ag;have S:=Aj u (((Aa (fun M=>M=p) a).setCell (p:=zA p (b+1)) (fun _=>rfl) (.map (some a.heap.size))).alloc (.map #[] 0)) fun Z A n=>Ba u l (BZ z) (n ▸ A)
 have v:d.ownsRow 0 223 5 g xs.length (xs.flatMap (·.cells.toList)):=Aj (w:=(((a.setCell (zA p (b+1)) (.map (some a.heap.size))).alloc (.map #[] 0))).drew) S o fun Z A n=>by have:=Gd u A;omega
 have bb:Cl d p b g:=(i.cell _).trans (by rw[C9 (by omega)];exact G);have bl:Cl d w.heap.size 0 (zU e):=k.cell _;have bm:Cl d w.heap.size 1 (zI f):=k.cell _;have bn:Cl d w.heap.size 2 (zI sq):=k.cell _;have bo:Cl d w.heap.size 3 (.string s):=k.cell _;have bp:Cl d w.heap.size 4 (zI y):=k.cell _;have be:d.frozen? (zA p b)=false:=i.frozen _;have W:g.ownBlock≠some p:=Ba v i (BZ z);have bi:=i.lt;have ay:w.heap.size<d.heap.size:=k.lt;clear r B hk I K q x;go_wp2_with fail;go_region;clear af X ad al am an ao ap Y ac aq ar au av aw;go_wp2_with fail;go_region_law (refine step_append_lies _ (by rfl) _ _ _ (by rfl) 0 223 ak _ 5 48 Tryz.underlying121 ab ah ai aj rfl (by omega) g xs.length _ (by rfl) ((v.alloc _).drew) (zA d.heap.size 0) 1 1 [zU e,zI f,zI sq,.string s,zI y] (by rfl) (by rfl) (World.news_of_block (cs:=#[zU e,zI f,zI sq,.string s,zI y]) (t:=223) (fr:=(0,0)) (heap_alloc_new d _)) (by simp[Value.oneCell']) (by omega) (by unfold maxLen;omega) (by omega) (EN _) (d.heap.size+1) (by simp) ?_;intro bf ba D U J aa bj;have E:AX D p T _:=(i.alloc _).drew.grown J (BZ W);have bc:Cl D p b g:=(E.cell _).trans (by rw[C9 (by omega)];exact G);have bd:D.frozen? (zA p b)=false:=E.frozen _)
 all_goals go_end0
 all_goals exact⟨rfl,MR (by decide) z (((((m.mono fun _ _ c=>c.elim).setCell (p:=zA p (b+1)) (fun _=>.inl rfl) _).alloc _).drew).AJ o fun M bg c=>by have:=m.size;omega) i (.inr m.size) L v R rfl J U aa⟩
theorem Ra:(Tryz.prog.info? 25).map (fun i=>(i.zero,i.size,i.bytes))=some (some (zU 0),1,2):=by kernel_rfl
end Led
end
section
namespace Led
open Go.Maps (Keyed)
def MP (P:Program) (k size p t g:Nat) (cs:Array Value) (h f:Value) (i:List Value) (w w':Bc):Prop :=
 ∃ e d,AX w' p t ((cs.setIfInBounds g e).setIfInBounds (g+1) d)/\EC w' P k size e d i/\Am (fun c=>c=p∨h.ownBlock=some c∨f= .map (some c)) w w' /\
  (∀ b,e.ownBlock=some b->h.ownBlock=some b∨w.heap.size<=b)/\(∀ a,d= .map (some a)->f= .map (some a)∨w.heap.size<=a)
theorem LX {P:Program} {k size p t e:Nat} {cs:Array Value} {c b:Value} {xs:List Value} {w w':Bc} (h:AX w p t cs) (f:cs[e]?= some c) (g:cs[e+1]?= some b) (i:EC w P k size c b xs) (d:Au w w') :
  MP P k size p t e cs c b xs w w':=by
 refine⟨c,b,?_,i.Ab d (fun _ _ a=>a) fun _ _ a=>a,d.mono fun _ _ a=>a.elim,fun _ a=>.inl a,fun _ a=>.inl a⟩;rw[Nz f,Nz g];exact h.Ab d id
theorem KV {P:Program} {k size p t e:Nat} {cs:Array Value} {f d:Value} {xs:List Value} {w g w':Bc} (c:Au w g) (a:MP P k size p t e cs f d xs g w'):MP P k size p t e cs f d xs w w':=by
 obtain⟨o,n,h,i,j,l,m⟩:=a;exact⟨o,n,h,i,(c.mono fun _ _ a=>a.elim).AJ j fun _ _ a=>a,fun b a=>(l b a).imp id fun a=>AV c.size a,fun b a=>(m b a).imp id fun a=>AV c.size a⟩
def Ho (r:Bool) (n:Nat):Int:=if r then 0 else if n<2000 then 0 else 3
def Iy (r:Bool) (xs:List Value) (x:Value):List Value:=if r then xs else if xs.length<2000 then xs++[x] else xs
theorem Xg (p b:Nat) (T:TypeId) (cs:Array Value) (d g:Value) (xs:List Value) (a:Int) (s:BB) (w:Bc) (r:Bool) (i:T≠215) (f:AX w p T cs) (h:cs[b]?= some d) (e:cs[b+1]?= some g)
  (c:EC w Tryz.prog 215 2 d g xs) (k:r=true↔(.agg #[zU a,.string s]:Value)∈xs) (hk:MO Tryz.prog 215 (.agg #[zU a,.string s])) (j:xs.length<3000) :
  Calls Tryz.prog 155 #[.pointer (some (zA p b)),.agg #[zU a,.string s]] w (Rt (.tuple #[]) fun w'=>MP Tryz.prog 215 2 p T b cs d g (if r then xs else xs++[.agg #[zU a,.string s]]) w w'):=by
 cases r with
 |true=>exact(UF p b g xs a s w ((f.cell _).trans e) c.set (k.1 rfl) hk).mono fun t w' ⟨q,o⟩=>⟨q,LX f h e c o⟩
 |false =>
  have l:(.agg #[zU a,.string s]:Value)∉xs:=fun n=>Bv (k.2 n) (by simp)
  rcases c.set with⟨rfl,_⟩|⟨m,rfl,_⟩
  ·exact UE p b T cs d xs a s w i f h e c l hk j
  ·exact Sv p b T cs d m xs a s w i f h e c l hk j
theorem jV (p d:Nat) (T:TypeId) (cs:Array Value) (D g:Value) (xs:List Value) (b:Int) (s:BB) (w:Bc) (r:Bool) (E:T≠215) (i:AX w p T cs) (k:cs[d]?= some D) (v:cs[d+1]?= some g)
  (f:EC w Tryz.prog 215 2 D g xs) (F:r=true↔(.agg #[zU b,.string s]:Value)∈xs) (hk:MO Tryz.prog 215 (.agg #[zU b,.string s])) (J:xs.length<=2000) :
  Calls Tryz.prog 114 #[.pointer (some (zA p d)),.agg #[zU b,.string s],zI 2000] w (Rt (zI (Ho r xs.length)) fun w'=>MP Tryz.prog 215 2 p T d cs D g (Iy r xs (.agg #[zU b,.string s])) w w'):=by
 obtain⟨y,z,K⟩:=BD f.own;subst K;have C:=i.lt;have B:Cl w p d (.slice y xs.length z):=(i.cell _).trans k;have l:Cl w p (d+1) g:=(i.cell _).trans v;obtain⟨G,O⟩:∃ G,G=xs.length:=⟨_,rfl⟩
 have h:=Lh F;clear F;rcases Bool.eq_false_or_eq_true r with rfl|rfl
 ·go_in;go_wp2_with fail;refine(La p d g xs b s _ true ((World.cell?_alloc_lt _ _ _ C).trans l) (f.set.alloc _) (by simpa using h.out) hk).mono ?_;rintro u a ⟨rfl,j⟩;have q:AX a w.heap.size 215 #[zU b,.string s]:=(AX.new w _ _).Ab j id;have M:Cl a w.heap.size 0 (zU b):=q.cell _;have N:Cl a w.heap.size 1 (.string s):=q.cell _;have e:Au w a:=((Aa _ w).alloc _).AJ j fun _ _ c=>c
  have m:=Xg p d T cs _ g xs b s a true E (i.Ab e id) k v (f.Ab e (fun _ _ c=>c) fun _ _ c=>c) (by simpa using h.out) hk (by omega);have n:=Lh m;clear m h hk B l f J;go_wp2_with fail;refine n.out.mono ?_;rintro u L ⟨rfl,t⟩;have o:=Lh (KV e t);clear t n;go_wp2;go_ret;exact⟨rfl,by simpa [Iy] using o.out⟩
 ·by_cases x:xs.length<2000
  ·have I:decide ((2000:Int)<=(xs.length:Int))=false:=by simp;omega
   go_in;go_wp2_with fail;refine(La p d g xs b s _ false ((World.cell?_alloc_lt _ _ _ C).trans l) (f.set.alloc _) (by simpa using h.out) hk).mono ?_;rintro u a ⟨rfl,j⟩;have q:AX a w.heap.size 215 #[zU b,.string s]:=(AX.new w _ _).Ab j id;have M:Cl a w.heap.size 0 (zU b):=q.cell _;have N:Cl a w.heap.size 1 (.string s):=q.cell _;have e:Au w a:=((Aa _ w).alloc _).AJ j fun _ _ c=>c
   have H:Cl a p d (.slice y xs.length z):=((i.Ab e id).cell _).trans k;have m:=Xg p d T cs _ g xs b s a false E (i.Ab e id) k v (f.Ab e (fun _ _ c=>c) fun _ _ c=>c) (by simpa using h.out) hk (by omega);have n:=Lh m;clear m h hk B l f;go_wp2_with fail;refine n.out.mono ?_;rintro u L ⟨rfl,t⟩;have o:=Lh (KV e t);clear t n;go_wp2;go_ret;have A:Ho false xs.length=0:=by simp[Ho,x]
   rw[A];exact⟨rfl,by simpa [Iy,x] using o.out⟩
  ·have I:decide ((2000:Int)<=(xs.length:Int))=true:=by simp;omega
   go_in;go_wp2_with fail;refine(La p d g xs b s _ false ((World.cell?_alloc_lt _ _ _ C).trans l) (f.set.alloc _) (by simpa using h.out) hk).mono ?_;rintro u a ⟨rfl,j⟩;have e:Au w a:=((Aa _ w).alloc _).AJ j fun _ _ c=>c
   have H:Cl a p d (.slice y xs.length z):=((i.Ab e id).cell _).trans k;have o:=Lh (LX i k v f e);clear h hk B l f;go_wp2;go_ret;have A:Ho false xs.length=3:=by simp[Ho,x]
   rw[A];exact⟨rfl,by simpa [Iy,x] using o.out⟩
theorem Ua (p c:Nat) (T:TypeId) (cs:Array Value) (e h:Value) (xs:List Value) (a b sq:Int) (s:BB) (y:Int) (w:Bc) (r:Bool) (j:T≠223) (g:AX w p T cs) (i:cs[c]?= some e) (f:cs[c+1]?= some h)
  (d:EC w Tryz.prog 223 5 e h xs) (l:r=true↔(.agg #[zU a,zI b,zI sq,.string s,zI y]:Value)∈xs) (hk:MO Tryz.prog 223 (.agg #[zU a,zI b,zI sq,.string s,zI y])) (k:xs.length<3000) :
  Calls Tryz.prog 163 #[.pointer (some (zA p c)),.agg #[zU a,zI b,zI sq,.string s,zI y]] w (Rt (.tuple #[]) fun w'=>MP Tryz.prog 223 5 p T c cs e h (if r then xs else xs++[.agg #[zU a,zI b,zI sq,.string s,zI y]]) w w'):=by
 cases r with
 |true=>exact(Sd p c h xs a b sq s y w ((g.cell _).trans f) d.set (l.1 rfl) hk).mono fun u w' ⟨t,q⟩=>⟨t,LX g i f d q⟩
 |false =>
  have m:(.agg #[zU a,zI b,zI sq,.string s,zI y]:Value)∉xs:=fun o=>Bv (l.2 o) (by simp)
  rcases d.set with⟨rfl,_⟩|⟨n,rfl,_⟩
  ·exact Sc p c T cs e xs a b sq s y w j g i f d m hk k
  ·exact QB p c T cs e n xs a b sq s y w j g i f d m hk k
theorem aZ (p d:Nat) (T:TypeId) (cs:Array Value) (F i:Value) (xs:List Value) (b e sq:Int) (s:BB) (y:Int) (w:Bc) (r:Bool) (G:T≠223) (k:AX w p T cs) (m:cs[d]?= some F) (x:cs[d+1]?= some i)
  (h:EC w Tryz.prog 223 5 F i xs) (H:r=true↔(.agg #[zU b,zI e,zI sq,.string s,zI y]:Value)∈xs) (hk:MO Tryz.prog 223 (.agg #[zU b,zI e,zI sq,.string s,zI y])) (L:xs.length<=2000) :
  Calls Tryz.prog 117 #[.pointer (some (zA p d)),.agg #[zU b,zI e,zI sq,.string s,zI y],zI 2000] w (Rt (zI (Ho r xs.length)) fun w'=>MP Tryz.prog 223 5 p T d cs F i (Iy r xs (.agg #[zU b,zI e,zI sq,.string s,zI y])) w w'):=by
 obtain⟨A,B,M⟩:=BD h.own;subst M;have E:=k.lt;have D:Cl w p d (.slice A xs.length B):=(k.cell _).trans m;have n:Cl w p (d+1) i:=(k.cell _).trans x;obtain⟨I,U⟩:∃ I,I=xs.length:=⟨_,rfl⟩
 have j:=Lh H;clear H;rcases Bool.eq_false_or_eq_true r with rfl|rfl
 ·go_in;go_wp2_with fail;refine(KD p d i xs b e sq s y _ true ((World.cell?_alloc_lt _ _ _ E).trans n) (h.set.alloc _) (by simpa using j.out) hk).mono ?_;rintro v a ⟨rfl,l⟩;have g:AX a w.heap.size 223 #[zU b,zI e,zI sq,.string s,zI y]:=(AX.new w _ _).Ab l id;have O:Cl a w.heap.size 0 (zU b):=g.cell _;have P:Cl a w.heap.size 1 (zI e):=g.cell _;have Q:Cl a w.heap.size 2 (zI sq):=g.cell _;have R:Cl a w.heap.size 3 (.string s):=g.cell _;have S:Cl a w.heap.size 4 (zI y):=g.cell _;have f:Au w a:=((Aa _ w).alloc _).AJ l fun _ _ c=>c
  have o:=Ua p d T cs _ i xs b e sq s y a true G (k.Ab f id) m x (h.Ab f (fun _ _ c=>c) fun _ _ c=>c) (by simpa using j.out) hk (by omega);have q:=Lh o;clear o j hk D n h L;go_wp2_with fail;refine q.out.mono ?_;rintro v N ⟨rfl,u⟩;have t:=Lh (KV f u);clear u q;go_wp2;go_ret;exact⟨rfl,by simpa [Iy] using t.out⟩
 ·by_cases z:xs.length<2000
  ·have K:decide ((2000:Int)<=(xs.length:Int))=false:=by simp;omega
   go_in;go_wp2_with fail;refine(KD p d i xs b e sq s y _ false ((World.cell?_alloc_lt _ _ _ E).trans n) (h.set.alloc _) (by simpa using j.out) hk).mono ?_;rintro v a ⟨rfl,l⟩;have g:AX a w.heap.size 223 #[zU b,zI e,zI sq,.string s,zI y]:=(AX.new w _ _).Ab l id;have O:Cl a w.heap.size 0 (zU b):=g.cell _;have P:Cl a w.heap.size 1 (zI e):=g.cell _;have Q:Cl a w.heap.size 2 (zI sq):=g.cell _;have R:Cl a w.heap.size 3 (.string s):=g.cell _;have S:Cl a w.heap.size 4 (zI y):=g.cell _;have f:Au w a:=((Aa _ w).alloc _).AJ l fun _ _ c=>c
   have J:Cl a p d (.slice A xs.length B):=((k.Ab f id).cell _).trans m;have o:=Ua p d T cs _ i xs b e sq s y a false G (k.Ab f id) m x (h.Ab f (fun _ _ c=>c) fun _ _ c=>c) (by simpa using j.out) hk (by omega);have q:=Lh o;clear o j hk D n h;go_wp2_with fail;refine q.out.mono ?_;rintro v N ⟨rfl,u⟩;have t:=Lh (KV f u);clear u q;go_wp2;go_ret;have C:Ho false xs.length=0:=by simp[Ho,z]
   rw[C];exact⟨rfl,by simpa [Iy,z] using t.out⟩
  ·have K:decide ((2000:Int)<=(xs.length:Int))=true:=by simp;omega
   go_in;go_wp2_with fail;refine(KD p d i xs b e sq s y _ false ((World.cell?_alloc_lt _ _ _ E).trans n) (h.set.alloc _) (by simpa using j.out) hk).mono ?_;rintro v a ⟨rfl,l⟩;have f:Au w a:=((Aa _ w).alloc _).AJ l fun _ _ c=>c
   have J:Cl a p d (.slice A xs.length B):=((k.Ab f id).cell _).trans m;have t:=Lh (LX k m x h f);clear j hk D n h;go_wp2;go_ret;have C:Ho false xs.length=3:=by simp[Ho,z]
   rw[C];exact⟨rfl,by simpa [Iy,z] using t.out⟩
end Led
end
section
namespace Led
open Go.Maps (Keyed)
instance decBytes:DecidableEq BB:=fun a b=>decidable_of_iff (a.data=b.data) ⟨fun h=>by cases a;cases b;simpa using h,fun h=>by rw[h]⟩
abbrev Vl:=Int × BB
abbrev Zf:=Int × Int × Int × BB
abbrev Made:=Zf × Int
def Qv (x:Vl):Value:=.agg #[.int .u16 x.1,.string x.2]
def qR (x:Zf):Value:=.agg #[.int .u16 x.1,.int .i64 x.2.1,.int .i64 x.2.2.1,.string x.2.2.2]
def Lf (x:Made):Value:=.agg #[.int .u16 x.1.1,.int .i64 x.1.2.1,.int .i64 x.1.2.2.1,.string x.1.2.2.2,.int .i64 x.2]
def Te (x:Int):Value:=.int .u16 x
theorem UD {x y:Vl} (e:Qv x=Qv y):x=y:=by
 obtain⟨a,b⟩:=x;obtain⟨c,d⟩:=y;simpa [Qv] using e
theorem XX {x y:Made} (e:Lf x=Lf y):x=y:=by
 obtain⟨⟨a,b,c,d⟩,j⟩:=x;obtain⟨⟨f,g,h,i⟩,k⟩:=y;simpa [Lf,and_assoc] using e
theorem Xr {x y:Int} (a:Te x=Te y):x=y:=by simpa [Te] using a
theorem Ud {b : Type} {f:b->Value} (e:∀ {x a},f x=f a->x=a) {x:b} {l:List b}:f x∈l.map f↔x∈l:=by
 rw[Bp];exact⟨fun⟨a,g,c⟩=>e c ▸ g,fun d=>⟨x,d,rfl⟩⟩
def hasB {a : Type} [DecidableEq a] (x:a) (l:List a):Bool:=l.any fun b=>decide (b=x)
theorem aA {a : Type} [DecidableEq a] {x:a} {l:List a}:hasB x l=true↔x∈l:=by simp[hasB]
theorem OO {a : Type} [DecidableEq a] {f:a->Value} (b:∀ {x y},f x=f y->x=y) {x:a} {l:List a}:hasB x l=true↔f x∈l.map f:=by
 rw[Ud b,aA]
def Ey (a:Int):Prop:=0<=a/\a<=65535
def i64 (a:Int):Prop:=-9223372036854775808<=a/\a<=9223372036854775807
def oZ (m:Zf):Prop:=Ey m.1/\i64 m.2.1/\i64 m.2.2.1/\m.2.2.2.size<=maxLen
theorem wf_u16 {a:Int} (b:Ey a):(Lit.int .u16 a).wf=true:=by
 obtain⟨c,d⟩:=b;simp[Lit.wf,IntKind.min,IntKind.max,IntKind.signed,IntKind.bits];omega
theorem wf_i64 {a:Int} (b:i64 a):(Lit.int .i64 a).wf=true:=WalkArith.wf_i64 b
section
variable {n:Nat} {a b c d:Int} {s:BB}
theorem KN:Tryz.prog.cellsOf 25=1:=by kernel_rfl
theorem QO:Tryz.prog.cellsOf 3=1:=by kernel_rfl
theorem Tq:Tryz.prog.cellsOf 2=1:=by kernel_rfl
theorem MW:Tryz.prog.cellsOf 9=1:=by kernel_rfl
theorem QQ:Tryz.prog.cellsOf 215=2:=by kernel_rfl
theorem QP:Tryz.prog.cellsOf 159=4:=by kernel_rfl
theorem Ps:Tryz.prog.cellsOf 223=5:=by kernel_rfl
theorem Qz:Tryz.prog.types.size+1=(Tryz.prog.types.size-3)+4:=by kernel_rfl
theorem types_size:∃ a,Tryz.prog.types.size+1=a+4:=⟨_,Qz⟩
theorem WY (b:Ey a):Tryz.prog.keyLits (n+1) 25 [.int .u16 a]=some [.int .u16 a]:=by
 simp[Program.keyLits,Tryz.underlying25,wf_u16 b]
theorem PN (b:i64 a):Tryz.prog.keyLits (n+1) 3 [.int .i64 a]=some [.int .i64 a]:=by
 simp[Program.keyLits,Tryz.underlying3,wf_i64 b]
theorem aQ (b:i64 a):Tryz.prog.keyLits (n+1) 2 [.int .i64 a]=some [.int .i64 a]:=by
 simp[Program.keyLits,Tryz.underlying2,wf_i64 b]
theorem Rh (a:s.size<=maxLen):Tryz.prog.keyLits (n+1) 9 [.string s]=some [.string s.data.toList]:=by
 simp[Program.keyLits,Tryz.underlying9,a]
theorem lY (b:Ey a) (c:s.size<=maxLen):∃ l,Tryz.prog.keyLits (n+2) 215 [.int .u16 a,.string s]=some l:=by
 refine⟨[.int .u16 a,.string s.data.toList],?_⟩;unfold Program.keyLits;simp[Tryz.underlying215,QQ,KN,MW,WY b,Rh c]
theorem lX (d:Ey a) (e:i64 b) (f:i64 c) (g:s.size<=maxLen):∃ l,Tryz.prog.keyLits (n+2) 159 [.int .u16 a,.int .i64 b,.int .i64 c,.string s]=some l:=by
 refine⟨[.int .u16 a,.int .i64 b,.int .i64 c,.string s.data.toList],?_⟩;unfold Program.keyLits;simp[Tryz.underlying159,QP,KN,QO,Tq,MW,WY d,PN e,aQ f,Rh g]
theorem iK (e:Ey a) (f:i64 b) (g:i64 c) (j:s.size<=maxLen) (h:i64 d):∃ l,Tryz.prog.keyLits (n+3) 223 [.int .u16 a,.int .i64 b,.int .i64 c,.string s,.int .i64 d]=some l:=by
 obtain⟨l,i⟩:=lX (n:=n) e f g j;refine⟨l++[.int .i64 d],?_⟩;unfold Program.keyLits;simp[Tryz.underlying223,Ps,QP,QO,i,PN h]
theorem aO:Tryz.prog.keyType 215=true:=by kernel_rfl
theorem XO:Tryz.prog.keyType 223=true:=by kernel_rfl
theorem WV (c:Ey a) (f:s.size<=maxLen):MO Tryz.prog 215 (.agg #[.int .u16 a,.string s]):=by
 obtain⟨b,d⟩:=types_size;obtain⟨g,e⟩:=lY (n:=b+2) c f;refine⟨.string (keyBytes g),?_⟩;unfold keyOf;rw[Tryz.underlying215,d];simp[Value.formed,Tryz.underlying215,QQ,aO,Value.cells,e]
theorem aL (f:Ey a) (h:i64 b) (i:i64 c) (l:s.size<=maxLen) (j:i64 d):MO Tryz.prog 223 (.agg #[.int .u16 a,.int .i64 b,.int .i64 c,.string s,.int .i64 d]):=by
 obtain⟨e,g⟩:=types_size;obtain⟨m,k⟩:=iK (n:=e+1) f h i l j;refine⟨.string (keyBytes m),?_⟩;unfold keyOf;rw[Tryz.underlying223,g];simp[Value.formed,Tryz.underlying223,Ps,XO,Value.cells,k]
theorem KC (b:Ey a):MO Tryz.prog 25 (.int .u16 a):=⟨_,Go.Maps.keyOf_int_mk Tryz.underlying25 (wf_u16 b)⟩
end
section
variable {P:Program} {k k' size size' p T:Nat} {w w':Bc} {sv mv sv' mv':Value} {xs xs':List Value} {cs:Array Value}
theorem Ii.own_ne {base e n:Nat} {v:Value} {g:List Value} {b:Nat} (c:Ii w P k mv xs) (a:mv= .map (some b)) (f:w.ownsRow base e size v n g):v.ownBlock≠some b:=by
 rcases c with⟨rfl,_⟩|⟨h,rfl,d⟩
 ·cases a
 ·cases a;exact d.own_ne f
theorem Ii.Ee {g b:Nat} {t:TypeId} (c:Ii w P k mv xs) (a:mv= .map (some b)) (d:AX w g t cs):g≠b:=by
 rcases c with⟨rfl,_⟩|⟨f,rfl,e⟩
 ·cases a
 ·cases a;exact e.Ee d
theorem Ii.lt {b:Nat} (c:Ii w P k mv xs) (a:mv= .map (some b)):b<w.heap.size:=by
 rcases c with⟨rfl,_⟩|⟨e,rfl,d⟩
 ·cases a
 ·cases a;exact d.lt
theorem OV (e:EC w P k size sv mv xs) (d:EC w P k' size' sv' mv' xs') (hk:k≠k') (f:AX w p T cs) (g:T≠k') (h:∀ b,mv= .map (some b)->mv'≠.map (some b)) :
  ∀ i,(sv'.ownBlock=some i∨mv'= .map (some i))->¬(i=p∨sv.ownBlock=some i∨mv= .map (some i)):=by
 rintro i (c|c) (a|a|a)
 ·exact Ba d.own f (BZ g) (a ▸ c)
 ·exact Ex e.own d.own hk a c
 ·exact e.set.own_ne a d.own c
 ·exact d.set.Ee c f a.symm
 ·exact d.set.own_ne c e.own a
 ·exact h i a c
theorem GX (d:EC w P k' size' sv' mv' xs') {S:Nat->Prop} (e:Am S w w') (a:∀ i,(sv'.ownBlock=some i∨mv'= .map (some i))->¬S i):EC w' P k' size' sv' mv' xs' :=
 d.Ab e (fun c g=>a c (.inl g)) fun b f=>a b (.inr f)
theorem Sq (b:EC w P k' size' sv' mv' xs'):∀ i,(sv'.ownBlock=some i∨mv'= .map (some i))->i<w.heap.size:=by
 rintro i (a|a)
 ·exact Gd b.own a
 ·exact b.set.lt a
end
structure NE (w:Bc) (p:Nat) (s1 m1 s2 m2 s3 m3:Value) (S:List Vl) (M:List Made) (T:List Int):Prop where
 BR:AX w p 129 #[s1,m1,s2,m2,s3,m3]
 r1:EC w Tryz.prog 215 2 s1 m1 (S.map Qv)
 r2:EC w Tryz.prog 223 5 s2 m2 (M.map Lf)
 r3:EC w Tryz.prog 25 1 s3 m3 (T.map Te)
 nG:∀ b,m1= .map (some b)->m2≠.map (some b)
 oQ:∀ b,m1= .map (some b)->m3≠.map (some b)
 oU:∀ b,m2= .map (some b)->m3≠.map (some b)
def Pd (p:Nat) (d a e b f c:Value) (k:Nat):Prop :=
 k=p∨(d.ownBlock=some k∨a= .map (some k))∨(e.ownBlock=some k∨b= .map (some k))∨(f.ownBlock=some k∨c= .map (some k))
def GK (w:Bc) (F:Nat->Prop) (p:Nat) (S:List Vl) (M:List Made) (T:List Int):Prop :=
 ∃ d a e b f c,NE w p d a e b f c S M T/\∀ k,Pd p d a e b f c k->F k
def Grow (F:Nat->Prop) (w w':Bc) (k:Nat):Prop:=F k∨(w.heap.size<=k/\k<w'.heap.size)
section
variable {w w':Bc} {F:Nat->Prop} {p:Nat} {S S':List Vl} {M M':List Made} {T T':List Int}
theorem GK.Ab {g:Nat->Prop} (h:GK w F p S M T) (e:Am g w w') (f:∀ k,F k->¬g k):GK w' F p S M T:=by
 obtain⟨m,i,n,j,o,l,b,c⟩:=h;exact⟨m,i,n,j,o,l,⟨b.BR.Ab e (f _ (c _ (.inl rfl))),GX b.r1 e fun a d=>f a (c a (.inr (.inl d))),GX b.r2 e fun a d=>f a (c a (.inr (.inr (.inl d)))),
  GX b.r3 e fun a d=>f a (c a (.inr (.inr (.inr d)))),b.nG,b.oQ,b.oU⟩,c⟩
theorem GK.AB (a:GK w F p S M T) (b:Au w w'):GK w' F p S M T:=a.Ab b fun _ _ a=>a
theorem GK.wider {a:Nat->Prop} (b:GK w F p S M T) (c:∀ k,F k->a k):GK w a p S M T:=by
 obtain⟨j,g,l,h,m,i,d,e⟩:=b;exact⟨j,g,l,h,m,i,d,fun k f=>c k (e k f)⟩
theorem Vu {j g l h m i:Value} (a:NE w p j g l h m i S M T) (e:∀ k,Pd p j g l h m i k->F k) (x:MP Tryz.prog 215 2 p 129 0 #[j,g,l,h,m,i] j g (S'.map Qv) w w') :
  GK w' (Grow F w w') p S' M T/\Am F w w':=by
 obtain⟨z,y,v,q,r,u,o⟩:=x;have s:=OV a.r1 a.r2 (by decide) a.BR (by decide) a.nG;have t:=OV a.r1 a.r3 (by decide) a.BR (by decide) a.oQ;refine⟨⟨z,y,l,h,m,i,⟨v,q,GX a.r2 r s,GX a.r3 r t,?_,?_,a.oU⟩,?_⟩,r.mono ?_⟩
 ·intro b n f;rcases o b n with c|c
  ·exact a.nG b c f
  ·have:=a.r2.set.lt f;omega
 ·intro b n f;rcases o b n with c|c
  ·exact a.oQ b c f
  ·have:=a.r3.set.lt f;omega
 ·rintro k (rfl|(d|d)|d)
  ·exact .inl (e _ (.inl rfl))
  ·exact(u k d).imp (fun c=>e k (.inr (.inl (.inl c)))) fun c=>⟨c,Sq q k (.inl d)⟩
  ·exact(o k d).imp (fun c=>e k (.inr (.inl (.inr c)))) fun c=>⟨c,Sq q k (.inr d)⟩
  ·exact .inl (e k (.inr (.inr d)))
 ·rintro k _ (rfl|d|d)
  ·exact e _ (.inl rfl)
  ·exact e k (.inr (.inl (.inl d)))
  ·exact e k (.inr (.inl (.inr d)))
theorem Vv {l h m i n j:Value} (c:NE w p l h m i n j S M T) (e:∀ k,Pd p l h m i n j k->F k) (y:MP Tryz.prog 223 5 p 129 2 #[l,h,m,i,n,j] m i (M'.map Lf) w w') :
  GK w' (Grow F w w') p S M' T/\Am F w w':=by
 obtain⟨A,z,x,q,r,u,o⟩:=y;have s:=OV c.r2 c.r1 (by decide) c.BR (by decide) fun b a v=>c.nG b v a
 have t:=OV c.r2 c.r3 (by decide) c.BR (by decide) c.oU;refine⟨⟨l,h,A,z,n,j,⟨x,GX c.r1 r s,q,GX c.r3 r t,?_,c.oQ,?_⟩,?_⟩,r.mono ?_⟩
 ·intro b f g;rcases o b g with a|a
  ·exact c.nG b f a
  ·have:=c.r1.set.lt f;omega
 ·intro b f g;rcases o b f with a|a
  ·exact c.oU b a g
  ·have:=c.r3.set.lt g;omega
 ·rintro k (rfl|d|(d|d)|d)
  ·exact .inl (e _ (.inl rfl))
  ·exact .inl (e k (.inr (.inl d)))
  ·exact(u k d).imp (fun a=>e k (.inr (.inr (.inl (.inl a))))) fun a=>⟨a,Sq q k (.inl d)⟩
  ·exact(o k d).imp (fun a=>e k (.inr (.inr (.inl (.inr a))))) fun a=>⟨a,Sq q k (.inr d)⟩
  ·exact .inl (e k (.inr (.inr (.inr d))))
 ·rintro k _ (rfl|d|d)
  ·exact e _ (.inl rfl)
  ·exact e k (.inr (.inr (.inl (.inl d))))
  ·exact e k (.inr (.inr (.inl (.inr d))))
end
end Led
end
section
namespace Led
open Go.Maps (Keyed)
def Qw (S:List Vl) (k:Int) (b:BB):Int × List Vl :=
 if k/8192=1 then(if hasB (k,b) S then(0,S) else if S.length<2000 then(0,S++[(k,b)]) else(3,S)) else(1,S)
def Ld (M:List Made) (m:Zf) (y:Int):Int × List Made :=
 if m.1/8192=2/\(m.2.1=0∨m.2.1=1)/\0<=m.2.2.1/\0<=y then(if hasB (m,y) M then(0,M) else if M.length<2000 then(0,M++[(m,y)]) else(3,M)) else(1,M)
theorem p9 (w:Bc):Calls Tryz.prog 22 #[] w (Rt (zP w.heap.size) fun w'=>GK w' (fun k=>k=w.heap.size) w.heap.size [] [] []/\Au w w'/\w'.heap.size=w.heap.size+1):=by
 go_in;go_wp2;go_ret;refine⟨rfl,⟨zN,.map none,zN,.map none,zN,.map none,⟨AX.new w _ _,⟨⟨by simp,.inl ⟨rfl,rfl⟩⟩,.inl ⟨rfl,rfl⟩⟩,⟨⟨by simp,.inl ⟨rfl,rfl⟩⟩,.inl ⟨rfl,rfl⟩⟩,⟨⟨by simp,.inl ⟨rfl,rfl⟩⟩,.inl ⟨rfl,rfl⟩⟩,by simp,by simp,by simp⟩,?_⟩,(Aa _ w).alloc _,by simp⟩;rintro k (a|a|a|a)
 ·exact a
 all_goals simp[Value.ownBlock] at a
theorem FL (a:Int) (b:0<=a) (c:a<=65535) (w:Bc):Calls Tryz.prog 64 #[zU a] w (Rt (zI (a/8192)) fun w'=>w=w'):=by
 go_in;go_wp2;go_ret;exact⟨rfl,rfl⟩
theorem Y7 {S:List Vl} {k:Int} {b:BB} (a:k/8192=1):(Qw S k b).1=Ho (hasB (k,b) S) (S.map Qv).length:=by
 unfold Qw Ho;rw[AQ a,Be];split
 ·rfl
 ·split<;>rfl
theorem Y8 {S:List Vl} {k:Int} {b:BB} (a:k/8192=1):(Qw S k b).2.map Qv=Iy (hasB (k,b) S) (S.map Qv) (.agg #[zU k,.string b]):=by
 unfold Qw Iy;rw[AQ a,Be];split
 ·rfl
 ·split
  ·rw[Bw];rfl
  ·rfl
theorem WB {M:List Made} {m:Zf} {y:Int} (a:m.1/8192=2/\(m.2.1=0∨m.2.1=1)/\0<=m.2.2.1/\0<=y):(Ld M m y).1=Ho (hasB (m,y) M) (M.map Lf).length:=by
 unfold Ld Ho;rw[AQ a,Be];split
 ·rfl
 ·split<;>rfl
theorem WC {M:List Made} {m:Zf} {y:Int} (a:m.1/8192=2/\(m.2.1=0∨m.2.1=1)/\0<=m.2.2.1/\0<=y):(Ld M m y).2.map Lf=Iy (hasB (m,y) M) (M.map Lf) (.agg #[zU m.1,zI m.2.1,zI m.2.2.1,.string m.2.2.2,zI y]):=by
 unfold Ld Iy;rw[AQ a,Be];split
 ·rfl
 ·split
  ·rw[Bw];rfl
  ·rfl
theorem jI {k:IntKind} {a b:Int} (c:a=b):Ending.returned (.int k a)= .returned (.int k b):=by rw[c]
theorem pJ (F:Nat->Prop) (p:Nat) (S:List Vl) (M:List Made) (T:List Int) (k:Int) (b:BB) (w:Bc) (hk:Ey k) (i:b.size<=maxLen) (r:S.length<=2000) (c:GK w F p S M T) :
  Calls Tryz.prog 62 #[zP p,zU k,.string b] w (Rt (zI (Qw S k b).1) fun w'=>GK w' (Grow F w w') p (Qw S k b).2 M T/\Am F w w'):=by
 have y:=hk.1;have z:=hk.2;have g:=WV hk i;by_cases a:k/8192=1
 ·have o:(k/8192!=1)=false:=by simp[a]
  have s:(S.map Qv).length<=2000:=by simpa using r
  obtain⟨l,j,v,t,x,u,e,q⟩:=c;have d:=Lh (jV p 0 129 #[l,j,v,t,x,u] l j (S.map Qv) k b w (hasB (k,b) S) (by decide) e.BR rfl rfl e.r1 (OO UD) g s);rw[<- Y7 a,<- Y8 a] at d;clear a g i hk;go_in;go_wp2_with (first|(go_at_call 64;refine(FL _ (by omega) (by omega) _).mono ?_;rintro f w' ⟨rfl,rfl⟩)|(go_at_call 114;refine d.out.mono ?_;rintro f A ⟨rfl,h⟩;have m:=Lh h;clear h d));go_ret;exact⟨rfl,Vu e q m.out⟩
 ·have o:(k/8192!=1)=true:=by simp[a]
  have n:Qw S k b=(1,S):=Bg a;rw[n];clear a;go_in;go_wp2_with (go_at_call 64;refine(FL _ (by omega) (by omega) _).mono ?_;rintro f w' ⟨rfl,rfl⟩);go_ret;exact⟨rfl,c.wider fun _ c=>.inl c,Aa _ _⟩
theorem mV (F:Nat->Prop) (p:Nat) (S:List Vl) (M:List Made) (T:List Int) (k:Int) (b:BB) (w:Bc) (hk:Ey k) (e:b.size<=maxLen) (f:GK w F p S M T) :
  Calls Tryz.prog 128 #[zP p,zU k,.string b] w (Rt (.bool (hasB (k,b) S)) (Au w)):=by
 have d:=WV hk e;obtain⟨o,h,q,l,r,m,c,j⟩:=f;have a:=Lh (La p 0 h (S.map Qv) k b w (hasB (k,b) S) (c.BR.cell 1) c.r1.set (OO UD) d);generalize hasB (k,b) S=n at a ⊢;clear d e hk;go_in;go_wp2_with (first|(go_at_call 154;refine a.out.mono ?_;rintro i s ⟨rfl,g⟩));go_ret;exact⟨rfl,g⟩
theorem mW (F:Nat->Prop) (p:Nat) (S:List Vl) (M:List Made) (T:List Int) (k:Int) (w:Bc) (hk:Ey k) (d:GK w F p S M T) :
  Calls Tryz.prog 61 #[zP p,zU k] w (Rt (.bool (hasB k T)) (Au w)):=by
 have c:=KC hk;obtain⟨m,i,n,j,o,f,b,h⟩:=d;have a:=Lh (Zy p 4 f (T.map Te) k w (hasB k T) (b.BR.cell 5) b.r3.set (OO Xr) c);generalize hasB k T=l at a ⊢;clear c hk;go_in;go_wp2_with (first|(go_at_call 113;refine a.out.mono ?_;rintro g q ⟨rfl,e⟩));go_ret;exact⟨rfl,e⟩
end Led
end
end Go.Proofs.YtcjcndnjpedniaaGreat
