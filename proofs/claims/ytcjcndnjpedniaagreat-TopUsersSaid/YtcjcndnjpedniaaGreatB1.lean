/- A part of the proof of TopUsers. -/
import Derived.WalkKit
import Derived.WalkSpells
import Derived.WalkLawsBesides
import Derived.Maps.OwnSet
import Derived.Maps.AppendAt
import Derived.Deep.Draws
import Derived.Deep.AppendLies
import Derived.Lib.Hide
import Derived.Test.YtcjcndnjpedniaaGreatProg
import Derived.Deep.LoopGhost
import Derived.KernelRfl
import Derived.RegionTactic
import Derived.OwnWalk
import Derived.Maps.RangeRun
import Derived.Deep.RegionHeld3
namespace Go.Proofs.YtcjcndnjpedniaaGreat
set_option linter.all false
set_option maxRecDepth 100000
set_option maxHeartbeats 8000000
open Go.RowKit
section
def BC:=@decide_eq_false
def AY:=@Nat.le_refl
def AV:=@Nat.le_trans
def Bj:=@Nat.lt_of_lt_of_le
def C9:=@Array.getElem?_setIfInBounds_ne
def Co:=@Nat.lt_or_ge
def E8:=@Array.getElem?_modify
def BZ:=@Ne.symm
def Gw:=@List.pairwise_map
def Bp:=@List.mem_map
def Bv:=@absurd
def Bn:=@List.mem_of_getElem?
def Bd:=@List.mem_append
def Ai:=@List.mem_singleton
def Cf:=@List.getElem?_take_of_lt
def Fj:=@Nat.mul_le_mul_right
def EK:=@Nat.add_mul
def CY:=@List.flatMap_cons
def FU:=@Nat.zero_mul
def Bz:=@Nat.zero_add
def Es:=@List.getElem?_cons_zero
def Cx:=@List.getElem?_append_left
def Cq:=@List.getElem?_append_right
def Ch:=@List.getElem?_map
def Ah:=@List.getElem?_eq_getElem
def Dm:=@List.map_cons
def Ap:=@List.length_append
def BF:=@List.length_cons
def Ci:=@Array.length_toList
def AC:=@List.getElem?_eq_some_iff
def EI:=@List.length_eq_zero_iff
def FR:=@List.map_nil
def Cb:=@List.length_drop
def BA:=@List.length_take
def Bg:=@if_neg
def Cr:=@List.take_length
def Be:=@List.length_map
def AZ:=@List.setIfInBounds_toArray
def Bq:=@List.set_cons_zero
def Bi:=@List.set_cons_succ
def Fs:=@List.mem_of_mem_eraseIdx
def Gv:=@List.ext_getElem?
def Em:=@Array.getElem?_toList
def Eh:=@List.getElem?_set
def BH:=@decide_eq_true
def AQ:=@if_pos
def CK:=@List.getD_eq_getElem?_getD
def Df:=@List.cons_append
def BI:=@List.mem_cons
def Dn:=@List.mem_cons_of_mem
def Gb:=@List.take_succ_cons
def En:=@List.getElem?_eq_none
def AP:=@List.take_succ_eq_append_getElem
def Fy:=@Nat.mul_one
def F7:=@Nat.add_zero
def Br:=@List.getElem_mem
def Bw:=@List.map_append
def Dk:=@Int.tdiv_eq_ediv_of_nonneg
def DY:=@Int.tmod_eq_emod_of_nonneg
def Fh:=@Bool.eq_false_iff
def FY:=@List.all_eq_true
def Bt:=@List.take_of_length_le
def Bu:=@congrArg
def Cs:=@beq_eq_false_iff_ne
def CJ:=@Bool.false_eq_true
def FQ:=@List.mem_range
def Ag:=@decide_eq_false_iff_not
def Bb:=@decide_eq_true_eq
def CV:=@List.length_nil
def Fa:=@List.drop_eq_getElem_cons
def Ei:=@List.take_zero
def FP:=@List.mem_of_mem_take
def De:=@Bool.and_eq_true
def CQ:=@List.getElem_of_mem
def Dc:=@List.append_nil
def BU:=@List.nil_append
def EL:=@Nat.min_eq_left
def Gm:=@List.pairwise_cons
def Di:=@List.mem_map_of_mem
def Gu:=@Bool.not_eq_true'
def EU:=@List.length_filter_le
def CW:=@List.not_mem_nil
def Cj:=@List.findIdx?_eq_some_iff_getElem
def Ct:=@List.findIdx?_eq_none_iff
def EW:=@List.take_append_drop
def Ff:=@List.take_left'
def EJ:=@List.size_toArray
def Gc:=@List.toList_toArray
def BJ:=@List.append_assoc
def Cv:=@List.length_singleton
def Fw:=@List.flatMap_append
def EN:=@Nat.zero_le
def Gs:=@List.map_map
def Bf:=@And.intro
def FO:=@List.drop_drop
def Gn:=@Option.isSome_none
def F6:=@List.any_eq_true
def Dl:=@List.eq_nil_of_length_eq_zero
def Dg:=@List.length_replicate
def EZ:=@Array.getElem?_eq_getElem
def Gj:=@List.nodup_cons
def Dq:=@List.length_set
def FT:=@Nat.sub_self
def Dh:=@List.mem_iff_getElem?
def Gx:=@Nat.le_succ_of_le
def Fx:=@List.take_append_of_le_length
abbrev BB:=ByteArray
abbrev Bc:=World
abbrev zI (n:Int):Value:=.int .i64 n
abbrev zU (n:Int):Value:=.int .u16 n
abbrev zN:Value:=.slice none 0 0
abbrev zE:Value:=.string ⟨#[]⟩
abbrev zP (b:Nat):Value:=.pointer (some ⟨b,0,none⟩)
abbrev zS (b a n c:Nat):Value:=.slice (some ⟨b,a,none⟩) n c
theorem Lh {p:Prop} (a:p):Hid p:=Lib.hid a

theorem dF {p:Prop} [Decidable p] (a:¬p:=by omega):decide p=false:=BC a
theorem bF {c:Type} [BEq c] [LawfulBEq c] {a b:c} (d:a≠b:=by omega):(a == b)=false:=Cs.2 d
theorem bT {c:Type} [BEq c] [LawfulBEq c] {a b:c} (d:a=b:=by omega):(a == b)=true:=beq_iff_eq.2 d
abbrev zO:Value:=.int .i64 0
abbrev zA (b a:Nat):Addr:=⟨b,a,none⟩
abbrev Cl (w:Bc) (b a:Nat) (v:Value):Prop:=w.cell? ⟨b,a,none⟩=some v
abbrev Rt (v:Value) (P:Bc->Prop) (e:Ending) (w:Bc):Prop:=e = .returned v/\P w
structure Am (S:Nat->Prop) (w w':Bc):Prop where
 os:w'.os=w.os
 tape:w'.tape=w.tape
 output:w'.output=w.output
 size:w.heap.size<=w'.heap.size
 block:∀ k,k<w.heap.size->¬S k->w'.heap[k]?= w.heap[k]?
section
variable {S S':Nat->Prop} {a b c w w':Bc}
theorem Aa (S:Nat->Prop) (w:Bc):Am S w w:=⟨rfl,rfl,rfl,AY _,fun _ _ _=>rfl⟩
theorem T0 (w:Bc):Am (fun _=>False) w w:=Aa _ w
theorem Am.mono (c:Am S a b) (g:∀ i,i<a.heap.size->S i->S' i):Am S' a b :=
 ⟨c.os,c.tape,c.output,c.size,fun k d f=>c.block k d fun e=>f (g k d e)⟩
theorem Am.AJ (d:Am S a b) (k:Am S' b c) (h:∀ i,i<a.heap.size->S' i->S i):Am S a c :=
 ⟨k.os.trans d.os,k.tape.trans d.tape,k.output.trans d.output,AV d.size k.size,
  fun i f g=>(k.block i (Bj f d.size) fun e=>g (h i f e)).trans (d.block i f g)⟩
theorem Am.drew (c:Am S a b):Am S a b.drew:=⟨c.os,c.tape,c.output,c.size,c.block⟩
theorem Am.drewN (c:Am S a b) (n:Nat):Am S a (b.drewN n):=⟨c.os,c.tape,c.output,c.size,c.block⟩
theorem Am.alloc (c:Am S a b) (f:Obj):Am S a (b.alloc f) :=
 ⟨c.os,c.tape,c.output,AV c.size (by simp),fun e d g=>(Below.heap_alloc b f e (Bj d c.size)).trans (c.block e d g)⟩
theorem Am.setCell (c:Am S a b) {p:Addr} (h:p.block<a.heap.size->S p.block) (u:Value):Am S a (b.setCell p u) :=
 ⟨c.os,c.tape,c.output,by simpa [World.setCell] using c.size,fun g d f=>(Below.heap_setCell b p u g fun e=>f (by subst e;exact h d)).trans (c.block g d f)⟩
theorem Am.grown (g:Am S a b) {f:Option Nat} (d:b.grownBy c f) (l:∀ k,f=some k->k<a.heap.size->S k):Am S a c :=
 g.AJ (S':=fun k=>f=some k) ⟨d.os,d.tape,d.output,d.size,fun k i j=>d.block k i fun e=>j e.symm⟩ fun m h e=>l m e h
theorem Am.of_below {B:Nat} (a:Below B w w'):Am (fun k=>B<=k) w w':=⟨a.os,a.tape,a.output,a.size,fun k _ b=>a.block k (by omega)⟩
theorem Am.below {B:Nat} (a:Am S w w') (d:B<=w.heap.size) (c:∀ k,k<B->¬S k):Below B w w' :=
 ⟨a.os,a.tape,a.output,a.size,fun k b=>a.block k (by omega) (c k b)⟩
theorem Am.cell (a:Am S w w') {p:Addr} (c:p.block<w.heap.size) (b:¬S p.block):w'.cell? p=w.cell? p:=World.cell?_of_block (w:=w) (a.block p.block c b)
theorem Am.setBlock (c:Am S a b) {g:Nat} (h:g<a.heap.size->S g) (j:Obj):Am S a (ChangeMaps.setBlock b g j) :=
 ⟨c.os,c.tape,c.output,by simpa [ChangeMaps.setBlock] using c.size,fun i d f=>by
  rw[<- c.block i d f];simp only[ChangeMaps.setBlock];rw[C9 fun e=>f (by subst e;exact h d)]⟩
end
abbrev Au (w w':Bc):Prop:=Am (fun _=>False) w w'
def AX (w:Bc) (g:Nat) (t:TypeId) (cs:Array Value):Prop:=w.heap[g]?= some (.cells cs t (0,0))
section
variable {w w':Bc} {g:Nat} {t:TypeId} {cs:Array Value}
theorem Et {d:Obj} (a:w.heap[g]?= some d):g<w.heap.size:=by
 rcases Co g w.heap.size with c|b
 ·exact c
 ·rw[Array.getElem?_eq_none b] at a;cases a
theorem AX.lt (a:AX w g t cs):g<w.heap.size:=Et a
theorem AX.cell (a:AX w g t cs) (i:Nat):w.cell? (zA g i)=cs[i]?:=cell_of_row w g i cs t (0,0) a
theorem AX.frozen (a:AX w g t cs) (i:Nat):w.frozen? (zA g i)=false:=by
 unfold AX at a;simp[World.frozen?,a]
theorem AX.new (w:Bc) (t:TypeId) (cs:Array Value):AX (w.alloc (.cells cs t)) w.heap.size t cs:=heap_alloc_new w _
theorem AX.drew (a:AX w g t cs):AX w.drew g t cs:=a
theorem AX.drewN (a:AX w g t cs) (n:Nat):AX (w.drewN n) g t cs:=a
theorem AX.alloc (a:AX w g t cs) (b:Obj):AX (w.alloc b) g t cs:=(Below.heap_alloc w b g a.lt).trans a
theorem AX.Dw (a:AX w g t cs) (i:Nat) (u:Value):AX (w.setCell (zA g i) u) g t (cs.setIfInBounds i u):=by
 unfold AX at a ⊢;simp[World.setCell,E8,a]
theorem AX.far (a:AX w g t cs) {p:Addr} (b:g≠p.block) (u:Value):AX (w.setCell p u) g t cs:=(Below.heap_setCell w p u g b).trans a
theorem AX.Ab {S:Nat->Prop} (a:AX w g t cs) (b:Am S w w') (c:¬S g):AX w' g t cs:=(b.block g a.lt c).trans a
theorem AX.grown {b:Option Nat} (a:AX w g t cs) (c:w.grownBy w' b) (d:some g≠b):AX w' g t cs:=(c.block g a.lt d).trans a
theorem AX.GJ {b:Nat} {d:TypeId} {cs':Array Value} (c:AX w g t cs) (a:AX w b d cs') (e:t≠d):g≠b:=by
 rintro rfl;unfold AX at c a;rw[c] at a;injection a with a;injection a with _ ht;exact e ht
end
section
variable {w w':Bc} {base e size n:Nat} {v:Value} {xs:List Value}
theorem Aj {S:Nat->Prop} (f:w.ownsRow base e size v n xs) (i:Am S w w') (j:∀ g,v.ownBlock=some g->¬S g):w'.ownsRow base e size v n xs:=by
 obtain⟨h,a⟩:=f;refine⟨h,?_⟩;rcases a with a|⟨g,c,d,rfl,k,b,l⟩
 ·exact .inl a
 ·exact .inr ⟨g,c,d,rfl,k,(i.block g (Et b) (j g rfl)).trans b,l⟩
theorem Gd {g:Nat} (c:w.ownsRow base e size v n xs) (a:v.ownBlock=some g):g<w.heap.size:=by
 rcases c.2 with⟨rfl,_⟩|⟨b,f,h,rfl,_,d,_⟩
 ·simp[Value.ownBlock] at a
 ·have:b=g:=by simpa [Value.ownBlock] using a
  subst this;exact Et d
theorem BQ {g:Nat} (c:w.ownsRow base e size v n xs) (a:v.ownBlock=some g):base<=g:=by
 rcases c.2 with⟨rfl,_⟩|⟨b,f,h,rfl,d,_⟩
 ·simp[Value.ownBlock] at a
 ·have:b=g:=by simpa [Value.ownBlock] using a
  subst this;exact d
theorem BD (a:w.ownsRow base e size v n xs):∃ A c,v= .slice A n c:=by
 rcases a.2 with⟨rfl,rfl⟩|⟨g,b,d,rfl,_⟩
 ·exact⟨_,_,rfl⟩
 ·exact⟨_,_,rfl⟩
theorem Ba {t:TypeId} {cs:Array Value} {g:Nat} (b:w.ownsRow base e size v n xs) (d:AX w g t cs) (h:e≠t):v.ownBlock≠some g:=by
 rcases b.2 with⟨rfl,_⟩|⟨a,i,j,rfl,_,f,_⟩
 ·simp[Value.ownBlock]
 ·intro c;have:a=g:=by simpa [Value.ownBlock] using c
  subst this;exact AX.GJ (t:=e) f d h rfl
theorem Ex {base' a l k:Nat} {c:Value} {m:List Value} {g:Nat} (f:w.ownsRow base e size v n xs) (h:w.ownsRow base' a l c k m) (j:e≠a) (b:v.ownBlock=some g):c.ownBlock≠some g:=by
 rcases f.2 with⟨rfl,_⟩|⟨d,o,p,rfl,_,i,_⟩
 ·simp[Value.ownBlock] at b
 ·have:d=g:=by simpa [Value.ownBlock] using b
  subst this;exact Ba h i (BZ j)
end
open Go.Maps (Keyed)
def MO (P:Program) (k:TypeId) (v:Value):Prop:=∃ l,keyOf P k v=some l
def Cw (w:Bc) (P:Program) (k:TypeId) (b:Nat) (l:List (Value × Value)):Prop :=
 ∃ a c,w.heap[b]?= some (.map a c)/\MapKept.Stamped a c/\a.toList.map (fun e=>(e.key,e.val))=l/\∀ d∈l,MO P k d.1
section
variable {P:Program} {k:TypeId} {w w':Bc} {b:Nat} {l:List (Value × Value)}
theorem Cw.lt (a:Cw w P k b l):b<w.heap.size:=by
 obtain⟨e,d,c,_⟩:=a;exact Et c
theorem Cw.Ab {S:Nat->Prop} (a:Cw w P k b l) (g:Am S w w') (h:¬S b):Cw w' P k b l:=by
 have i:=a.lt;obtain⟨d,c,e,f⟩:=a;exact⟨d,c,(g.block b i h).trans e,f⟩
theorem Cw.new (w:Bc) (P:Program) (k:TypeId):Cw (w.alloc (.map #[] 0)) P k w.heap.size [] :=
 ⟨#[],0,heap_alloc_new w _,MapKept.stamped_empty 0,rfl,by simp⟩
theorem Cw.alloc (c:Cw w P k b l) (a:Obj):Cw (w.alloc a) P k b l:=c.Ab ((T0 w).alloc a) id
theorem Cw.drew (a:Cw w P k b l):Cw w.drew P k b l:=a
theorem Cw.drewN (a:Cw w P k b l) (n:Nat):Cw (w.drewN n) P k b l:=a
theorem Cw.far (c:Cw w P k b l) {p:Addr} (d:p.block≠b) (u:Value):Cw (w.setCell p u) P k b l :=
 c.Ab (S:=fun a=>a=p.block) ((Aa (fun a=>a=p.block) w).setCell (p:=p) (fun _=>rfl) u) fun e=>d e.symm
theorem Cw.nodup (d:Cw w P k b l):l.Pairwise (fun x y=>x.1≠y.1):=by
 obtain⟨c,a,_,e,rfl,_⟩:=d;rw[Gw];exact((MapKept.stamped_iff c a).1 e).2.2
theorem Cw.Ee {t:TypeId} {cs:Array Value} {g:Nat} (c:Cw w P k b l) (a:AX w g t cs):g≠b:=by
 rintro rfl;obtain⟨f,e,d,_⟩:=c;unfold AX at a;rw[d] at a;cases a
theorem Cw.own_ne {base e size n:Nat} {v:Value} {xs:List Value} (c:Cw w P k b l) (g:w.ownsRow base e size v n xs):v.ownBlock≠some b:=by
 rcases g.2 with⟨rfl,_⟩|⟨a,h,i,rfl,_,f,_⟩
 ·simp[Value.ownBlock]
 ·intro d;have:a=b:=by simpa [Value.ownBlock] using d
  exact c.Ee f this
variable {t e:TypeId} {key:Value}
theorem JV {a:Array MapEntry} (b:a.toList.map (fun e=>(e.key,e.val))=l) {x:MapEntry} (hx:x∈a.toList):(x.key,x.val)∈l:=by
 rw[<- b];exact Bp.2 ⟨x,hx,rfl⟩
theorem Cw.Nl (n:Cw w P k b l) (m:Keyed P k) (ht:P.underlying t=some (.map k e)) {v:Value} (g:(key,v)∈l) (c:Bool) :
  (Instr.lookup t (.map (some b)) key c).run P w= .ok (if c then .tuple #[v,.bool true] else v) w:=by
 have r:=n.nodup;obtain⟨u,C,z,D,i,o⟩:=n;obtain⟨F,p⟩:=o _ g;rcases m.find w p u.toList (fun f hx=>o _ (JV i hx)) with⟨_,h⟩|⟨E,a,x,h,y⟩
 ·rw[<- i] at g;obtain⟨f,hx,d⟩:=Bp.1 g;injection d with d _;exact Bv d (h f hx)
 ·have B:a.val=v:=by
   have q:(a.key,a.val)∈l:=JV i (Bn h);rw[y] at q;have d:=List.Pairwise.forall_of_forall_of_flip (R:=fun f s:Value × Value=>f.1=s.1->f=s) (fun _ _ _=>rfl) (r.imp fun j e=>Bv e j) (r.imp fun j e=>Bv e.symm j) q g rfl;injection d
  have A:(Instr.lookup t (.map (some b)) key c).run P w= .ok (if c then .tuple #[a.val,.bool true] else a.val) w:=by
   cases c<;>simp[Instr.lookup,run_underlying ht,MapKept.run_getObj_map z,m.check w _ p,x]
  rw[A,B]
theorem Cw.OQ (i:Cw w P k b l) (a:Keyed P k) (ht:P.underlying t=some (.map k e)) {z:Value} (s:(zeroValue e).run P w= .ok z w) (q:MO P k key) (r:∀ p∈l,p.1≠key) (c:Bool) :
  (Instr.lookup t (.map (some b)) key c).run P w= .ok (if c then .tuple #[z,.bool false] else z) w:=by
 obtain⟨h,u,n,x,g,o⟩:=i;obtain⟨A,f⟩:=q;rcases a.find w f h.toList (fun B hx=>o _ (JV g hx)) with⟨d,_⟩|⟨y,v,d,j,m⟩
 ·cases c<;>simp[Instr.lookup,run_underlying ht,MapKept.run_getObj_map n,a.check w _ f,d,s]
 ·exact Bv m (r _ (JV g (Bn j)))
theorem Cw.Nv (q:Cw w P k b l) (j:Keyed P k) (ht:P.underlying t=some (.map k e)) (s:MO P k key) (u:∀ p∈l,p.1≠key) (v:Value) :
  ∃ o,(Instr.mapUpdate t (.map (some b)) key v).run P w= .ok () (ChangeMaps.setBlock w b o)/\Cw (ChangeMaps.setBlock w b o) P k b (l++[(key,v)]):=by
 obtain⟨d,c,g,x,i,n⟩:=q;obtain⟨y,h⟩:=s;rcases j.find w h d.toList (fun B hx=>n _ (JV i hx)) with⟨m,f⟩|⟨A,z,m,f,r⟩
 ·refine⟨.map (d.push ⟨key,v,c⟩) (c+1),?_,d.push ⟨key,v,c⟩,c+1,ChangeMaps.heap_setBlock_same g _,MapKept.stamped_push x f,by simp[i],?_⟩
  ·simp[Instr.mapUpdate,run_underlying ht,MapKept.run_getObj_map g,j.check w false h,m,MapKept.run_setObj_map _ g,Result.andThen,ChangeMaps.setBlock]
  ·intro p a;rcases Bd.1 a with a|a
   ·exact n p a
   ·rw[Ai.1 a];exact⟨y,h⟩
 ·exact Bv r (u _ (JV i (Bn f)))
end
end
theorem KX {w:Bc} {base e size n:Nat} {A:Option Addr} {c:Nat} {xs:List Value} (a:w.ownsRow base e size (.slice A n c) n xs) {j:Nat} (k:j<n):∃ g,A=some (zA g 0)/\g<w.heap.size/\∀ i,i<size->w.cell? (zA g (j*size+i))=xs[j*size+i]?:=by
 rcases a.2 with⟨a,o⟩|⟨g,m,d,l,_,b,q,_,r,ht⟩
 ·omega
 ·injection l with f _ h;subst f h;refine⟨g,rfl,Et b,fun i p=>?_⟩;rw[cell_of_row w g _ d e (0,0) b,<- ht];rw[Cf (by
   have:(j+1)*size<=n*size:=Fj _ k;rw[EK] at this;omega)]
  simp
theorem LU {α g : Type} (f:α->List g) (size:Nat):∀ (xs:List α),(∀ x∈xs,(f x).length=size)->∀ j i,i<size->(xs.flatMap f)[j*size+i]?= (xs[j]?).bind fun x=>(f x)[i]?
 |[],_,j,i,_=>by simp
 |x::xs,a,0,i,b=>by
  have hx:(f x).length=size:=a x (by simp);simp only[CY,FU,Bz,Es,Option.bind_some];rw[Cx (by omega)]
 |x::xs,a,j+1,i,b=>by
  have hx:(f x).length=size:=a x (by simp);simp only[CY,List.getElem?_cons_succ];rw[Cq (by rw[hx,EK];omega),hx];have c:(j+1)*size+i-size=j*size+i:=by rw[EK];omega
  rw[c];exact LU f size xs (fun e d=>a e (by simp[d])) j i b
theorem Nr {α : Type} (V:α->Value) {w:Bc} {base e size:Nat} {A:Option Addr} {c:Nat} {xs:List α} (l:∀ x,(V x).cells.size=size) (d:w.ownsRow base e size (.slice A xs.length c) xs.length ((xs.map V).flatMap (·.cells.toList))) {j:Nat} (b:j<xs.length) :
  ∃ g,A=some (zA g 0)/\g<w.heap.size/\∀ i,i<size->w.cell? (zA g (j*size+i))=(V xs[j]).cells[i]?:=by
 obtain⟨g,f,h,k⟩:=KX d b;refine⟨g,f,h,fun i a=>?_⟩;rw[k i a,LU _ size _ (by
  intro x hx;obtain⟨m,_,rfl⟩:=Bp.1 hx;simpa using l m) j i a,Ch,Ah b]
 simp
def Ay {α : Type} (V:α->Value) (w:Bc) (B size:Nat) (A:Option Addr) (xs:List α):Prop :=
 ∀ c (e:c<xs.length),∃ a d,A=some (zA a d)/\a<B/\∀ b,b<size->w.cell? (zA a (d+c*size+b))=(V xs[c]).cells[b]?
section
variable {α : Type} {V:α->Value} {w w':Bc} {B size:Nat} {A:Option Addr} {xs:List α}
theorem Ay.below (c:Ay V w B size A xs) (f:∀ k,k<B->w'.heap[k]?= w.heap[k]?):Ay V w' B size A xs:=fun j h=>by
 obtain⟨a,l,d,b,e⟩:=c j h;exact⟨a,l,d,b,fun i g=>(World.cell?_of_block (w:=w) (f a b)).trans (e i g)⟩
theorem Ay.Hu {base e c:Nat} (h:∀ x,(V x).cells.size=size) (b:w.ownsRow base e size (.slice A xs.length c) xs.length ((xs.map V).flatMap (·.cells.toList))):Ay V w w.heap.size size A xs:=fun l j=>by
 obtain⟨a,d,f,g⟩:=Nr V h b j;exact⟨a,0,d,f,fun k i=>by rw[Bz];exact g k i⟩
end
theorem Ay.AB {α : Type} {V:α->Value} {w w':Bc} {size:Nat} {A:Option Addr} {xs:List α} (c:Ay V w w.heap.size size A xs) (a:Au w w'):Ay V w' w'.heap.size size A xs:=fun i g=>by
 obtain⟨b,k,d,e,f⟩:=(c.below (w':=w') fun j h=>a.block j h id) i g;exact⟨b,k,d,Bj e a.size,f⟩
theorem Qc {α : Type} (V:α->Value) (a:∀ x,(V x).cells=#[V x]):∀ xs:List α,(xs.map V).flatMap (·.cells.toList)=xs.map V
 |[]=>rfl
 |x::xs=>by simp only[Dm,CY,Qc V a xs,a];rfl
theorem Ay.Ea {α : Type} {V:α->Value} {w:Bc} {A:Option Addr} {xs:List α} {base e c:Nat} (a:∀ x,(V x).cells=#[V x]) (b:w.ownsRow base e 1 (.slice A xs.length c) xs.length (xs.map V)):Ay V w w.heap.size 1 A xs :=
 Ay.Hu (e:=e) (c:=c) (base:=base) (fun x=>by rw[a];rfl) (by rw[Qc V a];exact b)
theorem Ay.BV {α : Type} {V:α->Value} {w:Bc} {B:Nat} {A:Option Addr} {xs:List α} (g:∀ x,(V x).cells=#[V x]) (c:Ay V w B 1 A xs) {j:Nat} (h:j<xs.length):∃ b a,A=some (zA b a)/\b<B/\Cl w b (a+j) (V xs[j]):=by
 obtain⟨b,a,d,e,f⟩:=c j h;refine⟨b,a,d,e,?_⟩;have:=f 0 (by omega);rw[g] at this;simpa using this
theorem bytes_inj {c b:BB}:c.toList=b.toList↔c=b:=by
 rw[ByteArray.toList_eq,ByteArray.toList_eq];exact⟨fun a=>ByteArray.ext (Array.toList_inj.mp a),fun a=>by rw[a]⟩
theorem bytes_beq {a b:BB}:(a.toList==b.toList)=decide (a=b):=by
 rw[Bool.eq_iff_iff];simp[bytes_inj]

section
variable {α : Type} {V:α->Value} {P:Program}
def BN (V:α->Value) (a:List α):List Value:=(a.map V).flatMap (·.cells.toList)
theorem I8 (b:∀ x,(V x).cells=#[V x]) (a:List α):BN V a=a.map V:=Qc V b a
theorem Ez (xs a:List α):BN V (xs++a)=BN V xs++BN V a:=by simp[BN]
theorem F4 {size:Nat} (b:∀ x,(V x).cells.size=size):∀ a:List α,(BN V a).length=a.length*size
 |[]=>by simp[BN]
 |y::a=>by
  have:=F4 b a;simp only[BN,Dm,CY,Ap,BF,Ci,b] at *;rw[EK];omega
theorem Oq {Q:Value->Prop} (b:∀ x,∀ u∈(V x).cells.toList,Q u) (d:List α):∀ u∈BN V d,Q u:=fun u a=>by
 unfold BN at a;obtain⟨e,c,a⟩:=List.mem_flatMap.1 a;obtain⟨x,_,rfl⟩:=Bp.1 c;exact b x u a
theorem Ay.cells {w:Bc} {B size:Nat} {A:Option Addr} {a:List α} (i:∀ x,(V x).cells.size=size) (r:0<size) (d:Ay V w B size A a) (n:0<a.length) :
  ∃ b c,A=some (zA b c)/\b<B/\∀ j u,(BN V a)[j]?= some u->w.cell? (zA b (c+j))=some u:=by
 obtain⟨b,c,g,o,_⟩:=d 0 n;refine⟨b,c,g,o,fun j u m=>?_⟩;have q:j<a.length*size:=by
  rw[<- F4 i];exact(AC.1 m).1
 have hq:j/size<a.length:=Nat.div_lt_of_lt_mul (by rw[Nat.mul_comm];exact q);have l:j%size<size:=Nat.mod_lt _ r;have k:j/size*size+j%size=j:=by rw[Nat.mul_comm];exact Nat.div_add_mod j size
 obtain⟨v,y,h,_,p⟩:=d (j/size) hq;rw[g] at h;cases h;have e:=p (j%size) l;rw[Nat.add_assoc,k] at e;rw[e,<- m];unfold BN;have f:=LU (fun s:Value=>s.cells.toList) size (a.map V) (fun x hx=>by
  obtain⟨t,_,rfl⟩:=Bp.1 hx;simpa using i t) (j/size) (j%size) l
 rw[k] at f;rw[f,Ch,Ah hq];simp
theorem Oe (w:Bc) (base:Nat) (t ty e:TypeId) (i:TypeInfo) (z:Value) (size d:Nat) (ht:P.underlying t=some (.slice e)) (f:P.info? e=some i) (C:i.zero=some z)
  (y:i.size=size) (r:i.bytes=d) (D:z.cells.size=size) (m:0<size) (p:∀ x,(V x).cells.size=size) (G:∀ x,∀ u∈(V x).cells.toList,u.oneCell'=true)
  (v:Value) (n:Nat) (xs:List Value) (g:w.ownsRow base e size v n xs) (B:Nat) (A:Option Addr) (c:Nat) (a:List α) (J:Ay V w B size A a)
  (o:n+a.length<=maxLen) (s:(n+a.length)*d<=140737488355328) (q:base<=w.heap.size) :
  ∃ b w',(Builtin.append_ #[t,t] ty #[v,.slice A a.length c]).run P w= .ok b w'/\w'.ownsRow base e size b (n+a.length) (xs++BN V a)/\w.grownBy w' v.ownBlock:=by
 have O:=Oq (Q:=fun u=>u.oneCell'=true) G a;have M:=F4 p a;rcases Nat.eq_zero_or_pos a.length with h|h
 ·obtain rfl:a=[]:=EI.1 h;rcases A with _|E
  ·refine⟨v,w,?_,by simpa [BN] using g,World.grownBy.refl w _⟩;rcases g.2 with⟨rfl,rfl⟩|⟨T,R,S,rfl,_,_,I,_⟩
   ·simp[Builtin.append_,run_underlying ht,sizeOf,typeInfo,f,Builtin.lenOf,Builtin.firstCells]
   ·simp[Builtin.append_,run_underlying ht,sizeOf,typeInfo,f,Builtin.lenOf,Builtin.firstCells,I,storeCells]
  ·obtain⟨b,w',j,k,l,_⟩:=run_append_own_at (P:=P) w base t ty e i z size d ht f C y r D m v n xs g E 0 c [] (by simp) (by simp) (by simp) o s q;exact⟨b,w',j,k,l⟩
 ·obtain⟨F,N,rfl,_,H⟩:=J.cells p m h;obtain⟨b,w',j,k,l,_⟩:=run_append_own_at (P:=P) w base t ty e i z size d ht f C y r D m v n xs g (zA F N) a.length c (BN V a) M (fun L u K=>by rw[Addr.add_lit];exact H L u K) O o s q;exact⟨b,w',j,k,l⟩
theorem J3 {w:Bc} {b:Oper} {a:Act} {h:Act->Bc->Prop} {Q:Exit->Act->Bc->Prop} (s x:Operand) (t:TypeId)
  (F:b.op= .call {callee:=.builtin .append,args:=#[s,x],argTypes:=#[t,t]})
  (base:Nat) (e:TypeId) (i:TypeInfo) (z:Value) (size g:Nat) (ht:P.underlying t=some (.slice e)) (D:P.info? e=some i) (M:i.zero=some z)
  (L:i.size=size) (y:i.bytes=g) (N:z.cells.size=size) (H:0<size) (p:∀ x,(V x).cells.size=size) (q:∀ x,∀ u∈(V x).cells.toList,u.oneCell'=true)
  (v:Value) (n:Nat) (xs:List Value) (K:a.eval s=v) (G:w.ownsRow base e size v n xs) (B:Nat) (A:Option Addr) (m c:Nat) (f:List α) (hx:a.eval x= .slice A m c) (E:f.length=m) (I:Ay V w B size A f)
  (o:n+m<=maxLen) (C:(n+m)*g<=140737488355328) (r:base<=w.heap.size)
  (j:∀ d w',w'.ownsRow base e size d (n+m) (xs++BN V f)->w.grownBy w' v.ownBlock->h (a.put b.dst d) w'):b.wp P a w h Q:=by
 subst E;obtain⟨d,w',J,k,l⟩:=Oe (P:=P) w base t b.type e i z size g ht D M L y N H p q v n xs G B A c f I o C r;unfold Oper.wp execOp;simp only[F,resolve,invoke,builtin,Sem.run_bind,Sem.run_pure,Result.andThen_ok,List.map_toArray,Dm,FR,K,hx,J];exact j d w' k l
theorem ER {w:Bc} {h:Array Oper} {rest:List Oper} {b:Oper} {a:Act} {Q:Exit->Act->Bc->Prop} (E:b.guard=none) (s x:Operand) (t:TypeId)
  (H:b.op= .call {callee:=.builtin .append,args:=#[s,x],argTypes:=#[t,t]})
  (base:Nat) (e:TypeId) (i:TypeInfo) (z:Value) (size g:Nat) (ht:P.underlying t=some (.slice e)) (F:P.info? e=some i) (N:i.zero=some z)
  (M:i.size=size) (C:i.bytes=g) (O:z.cells.size=size) (J:0<size) (q:∀ x,(V x).cells.size=size) (r:∀ x,∀ u∈(V x).cells.toList,u.oneCell'=true)
  (v:Value) (n:Nat) (xs:List Value) (L:a.eval s=v) (I:w.ownsRow base e size v n xs) (B:Nat) (A:Option Addr) (m c:Nat) (f:List α) (hx:a.eval x= .slice A m c) (G:f.length=m) (K:Ay V w B size A f)
  (o:n+m<=maxLen) (D:(n+m)*g<=140737488355328) (y:base<=w.heap.size)
  (j:∀ d w',w'.ownsRow base e size d (n+m) (xs++BN V f)->w.grownBy w' v.ownBlock->wpList P h Q rest (a.put b.dst d) w'):wpList P h Q (b::rest) a w :=
 wpList_plain E fun _ p=>J3 s x t H base e i z size g ht F N M C O J q r v n xs L I B A m c f hx G K o D y fun d w' k l=>p _ _ (j d w' k l)
theorem Sw {w:Bc} {B size n c:Nat} {A:Option Addr} {xs:List α} (d:Ay V w B size A xs) (o:xs.length=n) (m:n<=c) (l r:Nat) (p:r<=n) :
  ∃ a,sliced A l r c size= .slice a (r-l) (c-l)/\Ay V w B size a ((xs.take r).drop l):=by
 refine⟨if c=l then A else A.map (·.add (l*size)),rfl,fun j h=>?_⟩;simp only[Cb,BA] at h;obtain⟨b,k,rfl,e,f⟩:=d (l+j) (by omega);rw[Bg (by omega)];refine⟨b,k+l*size,by simp[Addr.add_lit],e,fun i g=>?_⟩;have:=f i g;rw[EK,<- Nat.add_assoc] at this;rw[this];simp
theorem UH {w:Bc} {B size n c:Nat} {A:Option Addr} {xs:List α} {t e:TypeId} {i:TypeInfo} (ht:P.underlying t=some (.slice e)) (m:P.info? e=some i) (o:i.size=size) (h:Ay V w B size A xs) (g:xs.length=n) (k:n<=c) (x:Int) (l:Nat) (hx:x=(l:Int)) (p:l<=n) :
  ∃ a,(∀ b,(Instr.slice t (.slice A n c) (some (zI x)) none none).run P b= .ok (.slice a (n-l) (c-l)) b)/\Ay V w B size a (xs.drop l):=by
 subst hx;obtain⟨a,j,d⟩:=Sw h g k l n (AY _);refine⟨a,fun b=>?_,by rw[<- g,Cr] at d;exact d⟩;have f:P.elem t=e:=by simp[Program.elem,ht]
 rw[run_slice_l b t A n c (by rw[f];exact ht) .i64 (l:Int) (by omega) (by omega),f];simpa [sizeOf,typeInfo,m,o] using j
end

section
open Go.Maps (Keyed)
open Go.ChangeMaps (setBlock)
section
variable {P:Program} {k t e:TypeId} {w w':Bc} {b:Nat} {l:List (Value × Value)} {key:Value}
theorem Cw.len (a:Cw w P k b l) (ty:TypeId) (ht:P.underlying t=some (.map k e)):(Builtin.len_ #[t] ty #[.map (some b)]).run P w= .ok (zI (l.length:Int)) w:=by
 obtain⟨f,d,c,h,rfl,g⟩:=a;simp[Builtin.len_,run_underlying ht,MapKept.run_getObj_map c,goInt]
def Fq (w:Bc) (P:Program) (k:TypeId) (b r:Nat) (l left:List (Value × Value)):Prop :=
 ∃ a d c g f,w.heap[b]?= some (.map a d)/\MapKept.Stamped a d/\a.toList.map (fun e=>(e.key,e.val))=l/\(∀ h∈l,MO P k h.1) /\
  w.heap[r]?= some (.mapIter (some b) c g f)/\(∀ i∈a.toList,i.born<c)/\c<=f/\c<=d/\(leftOf a g).toList.map (fun e=>(e.key,e.val))=left
theorem Fq.map {r:Nat} {left:List (Value × Value)} (d:Fq w P k b r l left):Cw w P k b l:=by
 obtain⟨c,a,m,j,i,e,f,g,h,_⟩:=d;exact⟨c,a,e,f,g,h⟩
theorem Fq.lt {r:Nat} {left:List (Value × Value)} (a:Fq w P k b r l left):r<w.heap.size:=by
 obtain⟨f,e,n,m,d,g,h,i,j,c,_⟩:=a;exact Et c
theorem Fq.Ab {r:Nat} {left:List (Value × Value)} {S:Nat->Prop} (a:Fq w P k b r l left) (c:Am S w w') (q:¬S b) (s:¬S r):Fq w' P k b r l left:=by
 have o:=a.map.lt;have p:=a.lt;obtain⟨n,m,u,t,j,d,e,f,g,h,i⟩:=a;exact⟨n,m,u,t,j,(c.block b o q).trans d,e,f,g,(c.block r p s).trans h,i⟩
theorem Fq.Ee {r g:Nat} {ty:TypeId} {cs:Array Value} {left:List (Value × Value)} (d:Fq w P k b r l left) (a:AX w g ty cs):g≠r:=by
 rintro rfl;obtain⟨o,n,q,p,m,e,f,h,i,c,j⟩:=d;unfold AX at a;rw[c] at a;cases a
theorem Fq.bC {r a g:Nat} {l' left:List (Value × Value)} (e:Fq w P k b r l left) (f:Cw w P g a l'):a≠r:=by
 rintro rfl;obtain⟨s,p,v,u,o,h,i,j,m,d,n⟩:=e;obtain⟨t,q,c,_⟩:=f;rw[d] at c;cases c
theorem VP (a:Array MapEntry):leftOf a #[]=a:=by
 unfold leftOf;rw[Array.filter_eq_self];simp
theorem Cw.range (d:Cw w P k b l) (ht:P.underlying t=some (.map k e)) :
  ∃ w2,(Instr.range t (.map (some b))).run P w= .ok (zP w.heap.size) w2/\Fq w2 P k b w.heap.size l l/\Au w w2/\w2.heap.size=w.heap.size+1:=by
 have j:=d.lt;obtain⟨c,a,f,h,g,i⟩:=d;refine⟨_,run_range_map w t k e b c a ht f,⟨c,a,a,#[],a,?_,h,g,i,heap_alloc_new w _,((MapKept.stamped_iff c a).1 h).1,AY _,AY _,by rw[VP];exact g⟩,(Aa _ w).alloc _,by simp⟩;rw[heap_alloc_old w _ j];exact f
theorem Jd {a:Array MapEntry} {b:Array Nat} {x:MapEntry}:x∈(leftOf a b).toList↔x∈a.toList/\x.born∉b:=by
 unfold leftOf;simp
theorem PQ {c:Array MapEntry} {b:Array Nat} {a:MapEntry} (e:a∈(leftOf c b).toList):(leftOf c (b.push a.born)).toList.length<(leftOf c b).toList.length:=by
 have f:(leftOf c (b.push a.born)).toList=(leftOf c b).toList.filter (fun d=>!(d.born==a.born)):=by
  unfold leftOf;simp only[Array.toList_filter,List.filter_filter]
  congr 1
  funext d;simp only[Array.contains_push];cases b.contains d.born<;>cases(d.born==a.born)<;>rfl
 rw[f];exact List.length_filter_lt_length_iff_exists.2 ⟨a,e,by simp⟩
theorem Fq.next {r:Nat} {left:List (Value × Value)} (y:Fq w P k b r l left) (ty:TypeId) :
  (left=[]/\(Instr.next (zP r) false ty).run P w= .ok (.tuple #[.bool false]) w) ∨
  ∃ p∈left,∃ w2 C,(Instr.next (zP r) false ty).run P w= .ok (.tuple #[.bool true,p.1,p.2]) w2/\Fq w2 P k b r l C/\C.length<left.length/\(∀ q,q∈C↔q∈left/\q.1≠p.1)/\p∈l /\
   Am (fun i=>i=r) w w2/\w2.heap.size=w.heap.size/\(Instr.entry (zP r)).run P w2= .ok (.tuple #[p.1,p.2]) w2:=by
 have Z:=y.map;have W:b≠r:=y.bC Z;obtain⟨f,d,m,h,D,E,F,G,Q,H,I,S,M,t⟩:=y;have v:=(MapKept.stamped_iff f d).1 F;rcases run_next_at (P:=P) w ty r b m D h f d H E I S with⟨O,A⟩|⟨c,z,o,x,A⟩
 ·left;refine⟨?_,A⟩;rw[<- t];have:(leftOf f h)=#[]:=Array.eq_empty_of_size_eq_zero O;rw[this];rfl
 ·right;have X:o.heap[b]?= some (.map f d):=by rcases x with rfl|rfl<;>exact E
  have aa:o.heap[r]?= some (.mapIter (some b) m h D):=by rcases x with rfl|rfl<;>exact H
  have T:Am (fun i=>i=r) w o:=by
   rcases x with rfl|rfl
   ·exact Aa _ _
   ·exact(Aa _ w).drew
  have hs1:o.heap.size=w.heap.size:=by rcases x with rfl|rfl<;>rfl
  have L:(setBlock o r (.mapIter (some b) m (h.push c.born) d)).heap[r]?= some (.mapIter (some b) m (h.push c.born) d):=by
   have:=Et aa;simp[setBlock,this]
  have J:(setBlock o r (.mapIter (some b) m (h.push c.born) d)).heap[b]?= some (.map f d):=by
   simp only[setBlock];rw[C9 (BZ W)];exact X
  have u:c∈f.toList:=(Jd.1 z).1;refine⟨(c.key,c.val),?_,_,(leftOf f (h.push c.born)).toList.map fun e=>(e.key,e.val),A,⟨f,d,m,h.push c.born,d,J,F,G,Q,L,I,M,M,rfl⟩,?_,?_,?_,T.setBlock (g:=r) (fun _=>rfl) _,by simp[setBlock,hs1],run_entry_at _ r b m h f d c L J u v.2.1⟩
  ·rw[<- t];exact Bp.2 ⟨c,z,rfl⟩
  ·rw[<- t,Be,Be];exact PQ z
  ·intro q;rw[<- t];constructor
   ·intro hq;obtain⟨a,hx,rfl⟩:=Bp.1 hq;obtain⟨s,B⟩:=Jd.1 hx;have N:a.born∉h/\a.born≠c.born:=by simpa using B
    refine⟨Bp.2 ⟨a,Jd.2 ⟨s,N.1⟩,rfl⟩,fun Y=>N.2 ?_⟩;have:=List.Pairwise.forall_of_forall_of_flip (R:=fun a n:MapEntry=>a.key=n.key->a=n) (fun _ _ _=>rfl) (v.2.2.imp fun j e=>Bv e j) (v.2.2.imp fun j e=>Bv e.symm j) s u Y;rw[this]
   ·rintro⟨hq,j⟩;obtain⟨a,hx,rfl⟩:=Bp.1 hq;obtain⟨s,B⟩:=Jd.1 hx;refine Bp.2 ⟨a,Jd.2 ⟨s,?_⟩,rfl⟩;have V:a.born≠c.born:=fun U=>j (by
     have K:f.toList.Pairwise (fun a n=>a.born≠n.born):=by
      have:=v.2.1;rw[List.Nodup,Gw] at this;exact this
     have:=List.Pairwise.forall_of_forall_of_flip (R:=fun a n:MapEntry=>a.born=n.born->a=n) (fun _ _ _=>rfl) (K.imp fun j e=>Bv e j) (K.imp fun j e=>Bv e.symm j) s u U;rw[this])
    simp[B,V]
  ·exact JV G u
end
section
variable {P:Program} (w:Bc) {ops:Array Oper} {rest:List Oper} {o:Oper} {a:Act} {Q:Exit->Act->Bc->Prop}
theorem Jg (j:o.guard=none) (m:Operand) (t:TypeId) (p:o.op=Op.range t m) (k e:TypeId) (ht:P.underlying t=some (.map k e)) (b:Nat) (l:List (Value × Value))
  (n:a.eval m= .map (some b)) (c:Cw w P k b l) (h:∀ w2,Fq w2 P k b w.heap.size l l->Au w w2->w2.heap.size=w.heap.size+1->wpList P ops Q rest (a.put o.dst (zP w.heap.size)) w2):wpList P ops Q (o::rest) a w:=by
 refine wpList_plain j fun r i=>?_
 obtain⟨w2,q,d,f,g⟩:=c.range ht;unfold Oper.wp;simp[execOp,p,n,q,Result.andThen];exact i _ _ (h w2 d f g)
def Zh (P:Program) (k b r:Nat) (l left:List (Value × Value)) (w:Bc) (f:Value->Bc->Prop):Prop :=
 ∀ a c d,a∈left->a∈l->Fq c P k b r l d->d.length<left.length->(∀ e,e∈d↔e∈left/\e.1≠a.1)->Am (fun g=>g=r) w c->c.heap.size=w.heap.size ->
   (Instr.entry (zP r)).run P c= .ok (.tuple #[a.1,a.2]) c->f (.tuple #[.bool true,a.1,a.2]) c
theorem J2 (x:o.guard=none) (it:Operand) (f:o.op=Op.next it false) (k b r:Nat) (l left:List (Value × Value)) (e:a.eval it=zP r) (g:Fq w P k b r l left)
  (t:left=[]->wpList P ops Q rest (a.put o.dst (.tuple #[.bool false])) w)
  (u:Zh P k b r l left w fun v w2=>wpList P ops Q rest (a.put o.dst v) w2):wpList P ops Q (o::rest) a w:=by
 refine wpList_plain x fun B d=>?_
 unfold Oper.wp;rcases g.next o.type with⟨h,c⟩|⟨A,y,w2,z,c,i,j,m,n,p,q,s⟩
 ·simp[execOp,f,e,c,Result.andThen];exact d _ _ (t h)
 ·simp[execOp,f,e,c,Result.andThen];exact d _ _ (u A w2 z y n i j m p q s)
end
end
section
variable {P:Program} {md:Region.Mode} {ops:Array Oper} {Q:Exit->Act->Bc->Prop} {S:Bc->Prop} {fuel:Nat} {listed:Array Bool} {a:Act} {w:Bc}
theorem QZ (i d:Nat) {v:Value} (n:∃ b,ops[i]?= some b/\b.dst=some d/\Region.wanted b (yielded ops a.tmps)=true/\∀ w,S w->(execOp a.eval b).run P w= .ok (.value v) w)
  (p:Region.noSelect ops=true) (m:Region.free md ops listed i=true) (o:(Region.ready md ops listed).contains i=true)
  (f:∀ c a w,Q (.panic c) (a.put (some d) v) w->Q (.panic c) a w) (l:S w)
  (e:wpAnyH P md ops Q S fuel (listed.setIfInBounds i true) (a.put (some d) v) w):wpAnyH P md ops Q S (fuel+1) listed a w:=by
 obtain⟨b,g,h,j,k⟩:=n;rw[<- h] at f e;exact wpAnyH_take g p m o f (.inl ⟨j,k⟩) l e
theorem QY (i d:Nat) (m:∃ b,ops[i]?= some b/\b.dst=some d/\Region.wanted b (yielded ops a.tmps)=false)
  (o:Region.noSelect ops=true) (l:Region.free md ops listed i=true) (n:(Region.ready md ops listed).contains i=true)
  (f:∀ c a w,Q (.panic c) (a.put (some d) undef) w->Q (.panic c) a w) (k:S w)
  (e:wpAnyH P md ops Q S fuel (listed.setIfInBounds i true) (a.put (some d) undef) w):wpAnyH P md ops Q S (fuel+1) listed a w:=by
 obtain⟨b,g,h,j⟩:=m;rw[<- h] at f e;exact wpAnyH_take g o l n f (.inr ⟨j,rfl⟩) k e
theorem CZ {d:Option Nat} (b:d=none) (v:Value):a.put d v=a:=by subst b;rfl
theorem Ga (b:Nat) {d:Option Nat} (c:d=some b) (v:Value):a.put d v=a.put (some b) v:=by subst c;rfl
end
section
variable {P:Program} {md:Region.Mode} {ops:Array Oper} {Q:Exit->Act->Bc->Prop} {S:Bc->Prop} {n:Nat} {l:Array Bool} {a:Act} {w:Bc}
theorem hq (i d:Nat) {v:Value} {b:Oper} {f:Act} (h:S w) (e:wpAnyH P md ops Q S n (l.setIfInBounds i true) f w)
  (o:ops[i]?= some b:=by rfl) (k:b.dst=some d:=by rfl) (s:Region.wanted b (yielded ops a.tmps)=true:=by rfl)
  (hx:∀ w,S w->(execOp a.eval b).run P w= .ok (.value v) w:=by(intro w j;(try dsimp only at j);go_simp;try with_reducible rfl))
  (p:a.put (some d) v=f:=by(simp only[Act.put,AZ,Bq,Bi];try rfl))
  (r:Region.noSelect ops=true:=by kernel_rfl) (m:Region.free md ops l i=true:=by kernel_rfl) (q:(Region.ready md ops l).contains i=true:=by kernel_rfl)
  (g:∀ c a w,Q (.panic c) (a.put (some d) v) w->Q (.panic c) a w:=by exact fun _ _ _ e=>e):wpAnyH P md ops Q S (n+1) l a w:=by
 subst p;exact QZ i d ⟨b,o,k,s,hx⟩ r m q g h e
theorem hq2 (i j:Nat) {c d:Oper} (g:ops[i]?= some c) (h:ops[j]?= some d)
  (e:∀ b:Act->Bc->Prop,Shut (∀ a w,S w->(S w->wpAnyH P md ops Q S n (l.setIfInBounds i true) a w)->b a w)->if Region.wanted c (yielded ops a.tmps)=true then Oper.wp P c a w b Q else b (a.put c.dst undef) w)
  (f:∀ b:Act->Bc->Prop,Shut (∀ a w,S w->(S w->wpAnyH P md ops Q S n (l.setIfInBounds j true) a w)->b a w)->if Region.wanted d (yielded ops a.tmps)=true then Oper.wp P d a w b Q else b (a.put d.dst undef) w)
  (k:Region.ready md ops l=[i,j]:=by kernel_rfl):wpAnyH P md ops Q S (n+1) l a w :=
 wpAnyH_ready k (by simp) (AllReadyH.cons g e (AllReadyH.cons h f AllReadyH.nil))
theorem hs1 (i:Nat) {b:Oper} (e:ops[i]?= some b)
  (d:∀ c:Act->Bc->Prop,Shut (∀ a w,S w->(S w->wpAnyH P md ops Q S n (l.setIfInBounds i true) a w)->c a w)->if Region.wanted b (yielded ops a.tmps)=true then Oper.wp P b a w c Q else c (a.put b.dst undef) w)
  (f:Region.ready md ops l=[i]:=by kernel_rfl):wpAnyH P md ops Q S (n+1) l a w :=
 wpAnyH_ready f (by simp) (AllReadyH.cons e d AllReadyH.nil)
theorem GZ {e:Nat} (S:Bc->Prop) (c:S w.drew) (b:S w.drew->wpAnyH P .any ops Q S ops.size (Array.replicate ops.size false) a w.drew) (d:P.follows .mixedOrders=true:=by kernel_rfl):(Code.region e ops true).wp P Q a w:=wp_region_held_drew d c b
theorem hsA (i d:Nat) {f:Act} (h:S w) (b:wpAnyH P md ops Q S n (l.setIfInBounds i true) f w)
 (k:∃ e,ops[i]?= some e/\e.dst=some d/\Region.wanted e (yielded ops a.tmps)=false:=by exact⟨_,rfl,rfl,by rfl⟩)
 (m:a.put (some d) undef=f:=by(simp only[Act.put,AZ,Bq,Bi];try rfl))
 (p:Region.noSelect ops=true:=by kernel_rfl) (j:Region.free md ops l i=true:=by kernel_rfl) (o:(Region.ready md ops l).contains i=true:=by kernel_rfl)
 (g:∀ c a w,Q (.panic c) (a.put (some d) undef) w->Q (.panic c) a w:=by exact fun _ _ _ b=>b):wpAnyH P md ops Q S (n+1) l a w:=by
 subst m;exact QY i d k p j o g h b
theorem Gg (i:Nat) {b:Oper}
 (d:∀ c:Act->Bc->Prop,Shut (∀ a w,S w->(S w->wpAnyH P md ops Q S n (l.setIfInBounds i true) a w)->c a w)->if Region.wanted b (yielded ops a.tmps)=true then Oper.wp P b a w c Q else c (a.put b.dst undef) w)
 (e:ops[i]?= some b:=by rfl) (f:Region.ready md ops l=[i]:=by kernel_rfl):wpAnyH P md ops Q S (n+1) l a w:=hs1 i e d f
theorem zw (b:Q .normal a w) {n:Nat} (c:Region.ready md ops l=[]:=by kernel_rfl):wpAnyH P md ops Q S n l a w:=wpAnyH_done c b _
end

section
open Go.Maps (Keyed)
open Go.ChangeMaps (setBlock)
section
variable {P:Program} {k t e:TypeId} {w w':Bc} {b:Nat} {l:List (Value × Value)} {key:Value}
theorem aP {l:List (Value × Value)} (b:l.Pairwise fun x y=>x.1≠y.1) {x y:Value × Value} (hx:x∈l) (d:y∈l) (c:x.1=y.1):x=y :=
 List.Pairwise.forall_of_forall_of_flip (R:=fun x y:Value × Value=>x.1=y.1->x=y) (fun _ _ _=>rfl) (b.imp fun a e=>Bv e a) (b.imp fun a e=>Bv e.symm a) hx d c
theorem JL {c : Type}:∀ (l:List c) (j:Nat) (x:c),l[j]?= some x->l.Perm (x::l.eraseIdx j)
 |[],j,x,b=>by simp at b
 |a::l,0,x,b=>by simp at b;subst b;simp
 |a::l,j+1,x,b=>by
  have:=JL l j x (by simpa using b);simp only[List.eraseIdx_cons_succ];exact(this.cons a).trans (List.Perm.swap x a _)
theorem RX {a:Array MapEntry} (j:Nat):(a.eraseIdxIfInBounds j).toList=a.toList.eraseIdx j:=by
 rw[Array.eraseIdxIfInBounds];split
 ·simp
 ·rw[List.eraseIdx_of_length_le (by simpa using Nat.le_of_not_lt ‹_›)]
theorem Ko {b c : Type} (f:b->c):∀ (l:List b) (j:Nat),(l.eraseIdx j).map f=(l.map f).eraseIdx j
 |[],_=>by simp
 |_::_,0=>by simp
 |a::l,j+1=>by simp[Ko f l j]
theorem Cw.at_ (o:Cw w P k b l) (x:Keyed P k) {v:Value} (h:(key,v)∈l):∃ c d j a n,w.heap[b]?= some (.map c d)/\MapKept.Stamped c d/\c.toList.map (fun e=>(e.key,e.val))=l/\(∀ p∈l,MO P k p.1) /\
  keyOf P k key=some n/\(Instr.findKey k key c.toList).run P w= .ok (some (j,v)) w/\c.toList[j]?= some a/\a.key=key/\a.val=v:=by
 have A:=o.nodup;obtain⟨c,d,y,B,g,m⟩:=o;obtain⟨n,s⟩:=m _ h;rcases x.find w s c.toList (fun u hx=>m _ (JV g hx)) with⟨_,f⟩|⟨j,a,q,f,r⟩
 ·rw[<- g] at h;obtain⟨u,hx,i⟩:=Bp.1 h;injection i with i _;exact Bv i (f u hx)
 ·have z:(a.key,a.val)∈l:=JV g (Bn f);have t:a.val=v:=by
   have:=aP A z h r;injection this
  rw[t] at q;exact⟨c,d,j,a,n,y,B,g,m,s,q,f,r,t⟩
theorem Cw.WS (n:Cw w P k b l) (d:Keyed P k) (ht:P.underlying t=some (.map k e)) {v:Value} (x:(key,v)∈l) (ty:TypeId) :
  ∃ w2 j,(Builtin.delete_ #[t,k] ty #[.map (some b),key]).run P w= .ok (.tuple #[]) w2/\Cw w2 P k b j/\l.Perm ((key,v)::j)/\Am (fun i=>i=b) w w2/\w2.heap.size=w.heap.size:=by
 obtain⟨m,f,a,C,D,c,A,h,s,u,o,p,q,r⟩:=n.at_ d x;have y:l.Perm ((key,v)::l.eraseIdx a):=by
  refine JL l a _ ?_;rw[<- h,Ch,p];simp[q,r]
 refine⟨setBlock w b (.map (m.eraseIdxIfInBounds a) f),l.eraseIdx a,?_,⟨_,f,ChangeMaps.heap_setBlock_same c _,MapKept.stamped_erase A a,?_,fun B z=>s B (Fs z)⟩,y,(Aa (fun i=>i=b) w).setBlock (g:=b) (fun _=>rfl) _,by simp[setBlock]⟩
 ·simp[Builtin.delete_,run_underlying ht,MapKept.run_getObj_map c,d.check w _ u,o,MapKept.run_setObj_map _ c,setBlock]
 ·rw[RX,Ko,h]
theorem Cw.lN (o:Cw w P k b l) (f:Keyed P k) (ht:P.underlying t=some (.map k e)) (s:MO P k key) (u:∀ p∈l,p.1≠key) (ty:TypeId) :
  ∃ w2,(Builtin.delete_ #[t,k] ty #[.map (some b),key]).run P w= .ok (.tuple #[]) w2/\Cw w2 P k b l/\Am (fun i=>i=b) w w2/\w2.heap.size=w.heap.size:=by
 obtain⟨a,h,c,v,d,m⟩:=o;obtain⟨z,n⟩:=s;rcases f.find w n a.toList (fun A hx=>m _ (JV d hx)) with⟨j,_⟩|⟨y,x,j,q,r⟩
 ·refine⟨setBlock w b (.map a h),?_,⟨a,h,ChangeMaps.heap_setBlock_same c _,v,d,m⟩,(Aa (fun i=>i=b) w).setBlock (g:=b) (fun _=>rfl) _,by simp[setBlock]⟩;simp[Builtin.delete_,run_underlying ht,MapKept.run_getObj_map c,f.check w _ n,j,MapKept.run_setObj_map _ c,setBlock]
 ·exact Bv r (u _ (JV d (Bn q)))
theorem Cw.del (m:Cw w P k b l) (j:Keyed P k) (ht:P.underlying t=some (.map k e)) (r:MO P k key) (ty:TypeId) :
  ∃ w2 a,(Builtin.delete_ #[t,k] ty #[.map (some b),key]).run P w= .ok (.tuple #[]) w2/\Cw w2 P k b a/\((∃ v,l.Perm ((key,v)::a))∨a=l/\∀ p∈l,p.1≠key)/\Am (fun i=>i=b) w w2/\w2.heap.size=w.heap.size:=by
 by_cases c:∃ v,(key,v)∈l
 ·obtain⟨v,c⟩:=c;obtain⟨w2,a,d,f,o,g,h⟩:=m.WS j ht c ty;exact⟨w2,a,d,f,.inl ⟨v,o⟩,g,h⟩
 ·have n:∀ p∈l,p.1≠key:=fun p s q=>c ⟨p.2,by rw[<- q];exact s⟩
  obtain⟨w2,d,f,g,h⟩:=m.lN j ht r n ty;exact⟨w2,l,d,f,.inr ⟨rfl,n⟩,g,h⟩
theorem Cw.Uy (f:Cw w P k b l) (c:Keyed P k) (ht:P.underlying t=some (.map k e)) {q:Value} (H:(key,q)∈l) (v:Value) :
  ∃ w2 A B,(Instr.mapUpdate t (.map (some b)) key v).run P w= .ok () w2/\Cw w2 P k b A/\l.Perm ((key,q)::B)/\A.Perm ((key,v)::B)/\Am (fun i=>i=b) w w2/\w2.heap.size=w.heap.size:=by
 obtain⟨d,r,a,s,M,j,J,o,G,n,E,u,h,F⟩:=f.at_ c H;have y:d[a]?= some s:=by simpa using u
 have z:l[a]?= some (key,q):=by
  rw[<- o,Ch,u];simp[h,F]
 have m:a<l.length:=(AC.1 z).1;have K:(d.modify a fun e=>{e with key,val:=v}).toList.map (fun e=>(e.key,e.val))=l.set a (key,v):=by
  rw[<- o];apply Gv;intro i;simp only[Ch,Em,E8,Eh,Be];by_cases x:a=i
  ·subst x;rw[<- o,Be,Ci] at m;simp[m]
  ·simp[x]
 have I:(l.set a (key,v)).Perm ((key,v)::l.eraseIdx a):=by
  have:=JL (l.set a (key,v)) a (key,v) (by rw[List.getElem?_set_self m])
  rwa [List.eraseIdx_set_eq] at this
 refine⟨setBlock w b (.map (d.modify a fun e=>{e with key,val:=v}) r),l.set a (key,v),l.eraseIdx a,?_,⟨_,r,ChangeMaps.heap_setBlock_same j _,?_,K,?_⟩,JL l a _ z,I,(Aa (fun i=>i=b) w).setBlock (g:=b) (fun _=>rfl) _,by simp[setBlock]⟩
 ·have L:=c.stays w n;simp[Instr.mapUpdate,run_underlying ht,MapKept.run_getObj_map j,c.check w false n,E,y,h,L,MapKept.run_setObj_map _ j,Result.andThen,setBlock]
 ·refine MapKept.stamped_modify J a _ (fun _ _=>rfl) fun C _ f=>?_
  have D:C=s:=by simpa [y] using f.symm
  rw[D];exact h.symm
 ·intro N p;rcases List.mem_or_eq_of_mem_set p with p|rfl
  ·exact G N p
  ·exact⟨M,n⟩
theorem Cw.clear (d:Cw w P k b l) (ht:P.underlying t=some (.map k e)) (ty:TypeId) :
  ∃ w2,(Builtin.clear_ #[t] ty #[.map (some b)]).run P w= .ok (.tuple #[]) w2/\Cw w2 P k b []/\Am (fun i=>i=b) w w2/\w2.heap.size=w.heap.size:=by
 obtain⟨f,a,c,m,j,h⟩:=d;refine⟨setBlock w b (.map #[] a),?_,⟨#[],a,ChangeMaps.heap_setBlock_same c _,MapKept.stamped_empty a,rfl,by simp⟩,(Aa (fun i=>i=b) w).setBlock (g:=b) (fun _=>rfl) _,by simp[setBlock]⟩;simp[Builtin.clear_,run_underlying ht,MapKept.run_getObj_map c,MapKept.run_setObj_map _ c,setBlock]
theorem Fq.del {r:Nat} {left:List (Value × Value)} (n:Fq w P k b r l left) (u:Keyed P k) (ht:P.underlying t=some (.map k e)) {v:Value} (V:(key,v)∈l) (W:∀ p∈left,p.1≠key) (ty:TypeId) :
  ∃ w2 F,(Builtin.delete_ #[t,k] ty #[.map (some b),key]).run P w= .ok (.tuple #[]) w2/\Fq w2 P k b r F left/\l.Perm ((key,v)::F)/\Am (fun i=>i=b) w w2/\w2.heap.size=w.heap.size:=by
 have N:b≠r:=n.bC n.map;have C:=n.map;obtain⟨d,z,ab,m,L,h,G,H,ac,I,y,J,K,q⟩:=n;obtain⟨ae,ad,a,j,af,o,E,s,S,T,A,c,B,M⟩:=C.at_ u V;rw[h] at o;injection o with o;injection o with Q O;subst Q O;have D:l.Perm ((key,v)::l.eraseIdx a):=by
  refine JL l a _ ?_;rw[<- s,Ch,c];simp[B,M]
 have Y:m.contains j.born=true:=by
  rcases hq:m.contains j.born with _|_
  ·exfalso;refine W (j.key,j.val) ?_ B;rw[<- q];refine Bp.2 ⟨j,Jd.2 ⟨Bn c,?_⟩,rfl⟩;intro R;rw[Array.contains_iff_mem.2 R] at hq;cases hq
  ·rfl
 have U:(leftOf (d.eraseIdxIfInBounds a) m).toList=(leftOf d m).toList:=by
  unfold leftOf;rw[Array.toList_filter,Array.toList_filter,RX];clear h G H y q E s A C D;generalize d.toList=x at c
  induction x generalizing a with
  |nil=>simp at c
  |cons f x aa =>
   cases a with
   |zero =>
    simp at c;subst c;rw[List.eraseIdx_cons_zero,List.filter_cons,Y];rfl
   |succ a =>
    simp only[List.eraseIdx_cons_succ,List.filter_cons];rw[aa a (by simpa using c)]
 have Z:∀ f∈(d.eraseIdxIfInBounds a).toList,f∈d.toList:=fun f hx=>by rw[RX] at hx;exact Fs hx
 refine⟨setBlock w b (.map (d.eraseIdxIfInBounds a) z),l.eraseIdx a,?_,⟨_,z,ab,m,L,ChangeMaps.heap_setBlock_same h _,MapKept.stamped_erase E a,?_,fun p X=>S p (Fs X),?_,fun f hx=>y f (Z f hx),J,K,?_⟩,D,(Aa (fun i=>i=b) w).setBlock (g:=b) (fun _=>rfl) _,by simp[setBlock]⟩
 ·simp[Builtin.delete_,run_underlying ht,MapKept.run_getObj_map h,u.check w _ T,A,MapKept.run_setObj_map _ h,setBlock]
 ·rw[RX,Ko,s]
 ·simp only[setBlock];rw[C9 N];exact I
 ·rw[U];exact q
end
section
variable {P:Program} {w:Bc} {ops:Array Oper} {rest:List Oper} {o:Oper} {a:Act} {Q:Exit->Act->Bc->Prop} {K':Act->Bc->Prop}
theorem Kr (m x:Operand) (t k:TypeId) (f:o.op=Op.call {callee:=Callee.builtin Builtin.delete,args:=#[m,x],argTypes:=#[t,k]}) {b c:Value} {w2:Bc}
  (e:a.eval m=b) (hx:a.eval x=c) (g:(Builtin.delete_ #[t,k] o.type #[b,c]).run P w= .ok (.tuple #[]) w2) (d:K' (a.put o.dst (.tuple #[])) w2):o.wp P a w K' Q:=by
 unfold Oper.wp;simp[execOp,f,resolve,invoke,builtin,e,hx,g,Result.andThen];exact d
theorem Jh (m x y:Operand) (t:TypeId) (g:o.op=Op.mapUpdate t m x y) {b c d:Value} {w2:Bc}
  (f:a.eval m=b) (hx:a.eval x=c) (i:a.eval y=d) (h:(Instr.mapUpdate t b c d).run P w= .ok () w2) (e:K' (a.put o.dst undef) w2):o.wp P a w K' Q:=by
 unfold Oper.wp;simp[execOp,g,f,hx,i,h,Result.andThen];exact e
end
end
end Go.Proofs.YtcjcndnjpedniaaGreat
