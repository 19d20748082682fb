/- The contracts of row.add: an element that is new comes behind the others. -/
import Derived.Test.YtkldepflfomegaaHas
import Derived.Deep.RegionLaw
namespace Go.Proofs.Ytkldepflfomegaa
open Go.RowKit
open Go.Maps (Keyed)

theorem MapAt.put_at {P : Program} {k t e : TypeId} {w : World} {b : Nat} {l : List (Value × Value)} {key : Value} (h : MapAt w P k b l) (K : Keyed P k) (ht : P.underlying t = some (.map k e)) (hkey : IsK P k key) (hm : ∀ p ∈ l, p.1 ≠ key) (v : Value) :
    ∃ w2, (Instr.mapUpdate t (.map (some b)) key v).run P w = .ok () w2 ∧ MapAt w2 P k b (l ++ [(key, v)]) ∧ Turned (fun i => i = b) w w2 := by
  obtain ⟨o, h1, h2⟩ := h.put_new K ht hkey hm v
  exact ⟨_, h1, h2, (Turned.refl (fun i => i = b) w).setBlock (g := b) (fun _ => rfl) o⟩

theorem set_same {α : Type} {cs : Array α} {i : Nat} {v : α} (h : cs[i]? = some v) : cs.setIfInBounds i v = cs := by
  apply Array.ext_getElem?
  intro j
  rw [Array.getElem?_setIfInBounds]
  split
  · subst_vars; split <;> simp_all
  · rfl

theorem results_none {fn : Func} (h : fn.results = #[]) (tmps : Array Value) (P : Program) (w : World) : (results fn tmps).run P w = .ok (.tuple #[]) w := by simp [results, h]

/-- The two cells of a row: the elements in the order in which they came; the set of them. -/
structure RowIs (w : World) (P : Program) (k size : Nat) (sv mv : Value) (xs : List Value) : Prop where
  own : w.ownsRow 0 k size sv xs.length (xs.flatMap (·.cells.toList))
  set : SetOf w P k mv xs

theorem RowIs.turned {S : Nat → Prop} {P : Program} {k size : Nat} {w w' : World} {sv mv : Value} {xs : List Value} (h : RowIs w P k size sv mv xs) (hb : Turned S w w') (hs : ∀ g, sv.ownBlock = some g → ¬ S g) (hg : ∀ b, mv = .map (some b) → ¬ S b) : RowIs w' P k size sv mv xs :=
  ⟨own_turned h.own hb hs, h.set.turned hb hg⟩

/-- What has become of a row's two cells, at o and o + 1 of block p, to which x was added. -/
def Added (P : Program) (k size p t o : Nat) (cs : Array Value) (sv mv : Value) (xs : List Value) (x : Value) (w w' : World) : Prop :=
  ∃ sv' mv', Blk w' p t ((cs.setIfInBounds o sv').setIfInBounds (o + 1) mv') ∧ RowIs w' P k size sv' mv' (xs ++ [x]) ∧ Turned (fun i => i = p ∨ sv.ownBlock = some i ∨ mv = .map (some i)) w w' ∧
    (∀ g, sv'.ownBlock = some g → sv.ownBlock = some g ∨ w.heap.size ≤ g) ∧ (∀ b, mv' = .map (some b) → mv = .map (some b) ∨ w.heap.size ≤ b)

theorem added_of {P : Program} {k size p T o : Nat} {cs : Array Value} {sv mv x : Value} {b : Nat} {xs news : List Value} {w w2 w3 : World} {O : Obj} {gg cap : Nat} (_hs : 0 < size) (hT : T ≠ k)
    (hTT : Turned (fun i => i = p ∨ mv = .map (some i)) w w2) (B2 : Blk w2 p T (cs.setIfInBounds (o + 1) (.map (some b)))) (hbn : mv = .map (some b) ∨ w.heap.size ≤ b) (hpb : p ≠ b)
    (O2 : w2.ownsRow 0 k size sv xs.length (xs.flatMap (·.cells.toList))) (HM2 : MapAt w2 P k b (xs.map (fun x => (x, .agg #[])) ++ [(x, .agg #[])])) (hx : x.cells.toList = news)
    (hg3 : (w2.alloc O).drew.grownBy w3 sv.ownBlock) (O3 : w3.ownsRow 0 k size (.slice (some ⟨gg, 0, none⟩) (xs.length + 1) cap) (xs.length + 1) (xs.flatMap (·.cells.toList) ++ news)) (hat : sv.ownBlock = some gg ∨ gg = w2.heap.size + 1) :
    Added P k size p T o cs sv mv xs x w (w3.setCell ⟨p, o, none⟩ (.slice (some ⟨gg, 0, none⟩) (xs.length + 1) cap)) := by
  have ag : sv.ownBlock ≠ some p := own_blk_ne O2 B2 (Ne.symm hT)
  have B3 : Blk w3 p T _ := (B2.alloc _).drew.grown hg3 (Ne.symm ag)
  have hTg : Turned (fun i => i = p ∨ sv.ownBlock = some i ∨ mv = .map (some i)) w w3 := ((hTT.mono (fun _ _ h => h.imp id .inr)).alloc _).drew.grown hg3 (fun k h _ => .inr (.inl h))
  refine ⟨.slice (some ⟨gg, 0, none⟩) (xs.length + 1) cap, .map (some b), ?_, ⟨?_, .inr ⟨b, rfl, ?_⟩⟩, ?_, ?_, ?_⟩
  · have := B3.set_ o (.slice (some ⟨gg, 0, none⟩) (xs.length + 1) cap)
    rw [Array.setIfInBounds_comm _ _ (by omega)] at this
    exact this
  · have hne : gg ≠ p := fun e => own_blk_ne O3 B3 (Ne.symm hT) (by rw [e]; rfl)
    rw [List.flatMap_append]
    simp only [List.length_append, List.length_singleton, List.flatMap_cons, List.flatMap_nil, List.append_nil, hx]
    exact own_turned O3 ((Turned.refl (fun i => i = p) w3).setCell (p := ⟨p, o, none⟩) (fun _ => rfl) _) (fun g hg e => hne (by subst e; simpa [Value.ownBlock] using hg))
  · have hgb : sv.ownBlock ≠ some b := HM2.own_ne O2
    have hm3 : MapAt w3 P k b _ := (HM2.alloc _).drew.turned ((Turned.refl (fun i => sv.ownBlock = some i) _).grown hg3 (fun _ h _ => h)) hgb
    rw [List.map_append]
    exact hm3.far (p := ⟨p, o, none⟩) hpb _
  · exact hTg.setCell (p := ⟨p, o, none⟩) (fun _ => .inl rfl) _
  · intro g hg
    have : gg = g := by simpa [Value.ownBlock] using hg
    subst this
    rcases hat with h | h
    · exact .inl h
    · exact .inr (by have := hTT.size; omega)
  · intro b' h
    cases h
    exact hbn

theorem added_of' {P : Program} {k size p T o : Nat} {cs : Array Value} {sv mv x : Value} {b : Nat} {xs news : List Value} {w w2 w3 : World} {O : Obj} {gg cap : Nat} (_hs : 0 < size) (hT : T ≠ k)
    (hTT : Turned (fun i => i = p ∨ mv = .map (some i)) w w2) (B2 : Blk w2 p T (cs.setIfInBounds (o + 1) (.map (some b)))) (hbn : mv = .map (some b) ∨ w.heap.size ≤ b) (hpb : p ≠ b)
    (O2 : w2.ownsRow 0 k size sv xs.length (xs.flatMap (·.cells.toList))) (HM2 : MapAt w2 P k b (xs.map (fun x => (x, .agg #[])) ++ [(x, .agg #[])])) (hx : x.cells.toList = news)
    (hg3 : (w2.alloc O).grownBy w3 sv.ownBlock) (O3 : w3.ownsRow 0 k size (.slice (some ⟨gg, 0, none⟩) (xs.length + 1) cap) (xs.length + 1) (xs.flatMap (·.cells.toList) ++ news)) (hat : sv.ownBlock = some gg ∨ gg = w2.heap.size + 1) :
    Added P k size p T o cs sv mv xs x w (w3.setCell ⟨p, o, none⟩ (.slice (some ⟨gg, 0, none⟩) (xs.length + 1) cap)) := by
  have ag : sv.ownBlock ≠ some p := own_blk_ne O2 B2 (Ne.symm hT)
  have B3 : Blk w3 p T _ := (B2.alloc _).grown hg3 (Ne.symm ag)
  have hTg : Turned (fun i => i = p ∨ sv.ownBlock = some i ∨ mv = .map (some i)) w w3 := ((hTT.mono (fun _ _ h => h.imp id .inr)).alloc _).grown hg3 (fun k h _ => .inr (.inl h))
  refine ⟨.slice (some ⟨gg, 0, none⟩) (xs.length + 1) cap, .map (some b), ?_, ⟨?_, .inr ⟨b, rfl, ?_⟩⟩, ?_, ?_, ?_⟩
  · have := B3.set_ o (.slice (some ⟨gg, 0, none⟩) (xs.length + 1) cap)
    rw [Array.setIfInBounds_comm _ _ (by omega)] at this
    exact this
  · have hne : gg ≠ p := fun e => own_blk_ne O3 B3 (Ne.symm hT) (by rw [e]; rfl)
    rw [List.flatMap_append]
    simp only [List.length_append, List.length_singleton, List.flatMap_cons, List.flatMap_nil, List.append_nil, hx]
    exact own_turned O3 ((Turned.refl (fun i => i = p) w3).setCell (p := ⟨p, o, none⟩) (fun _ => rfl) _) (fun g hg e => hne (by subst e; simpa [Value.ownBlock] using hg))
  · have hgb : sv.ownBlock ≠ some b := HM2.own_ne O2
    have hm3 : MapAt w3 P k b _ := (HM2.alloc _).turned ((Turned.refl (fun i => sv.ownBlock = some i) _).grown hg3 (fun _ h _ => h)) hgb
    rw [List.map_append]
    exact hm3.far (p := ⟨p, o, none⟩) hpb _
  · exact hTg.setCell (p := ⟨p, o, none⟩) (fun _ => .inl rfl) _
  · intro g hg
    have : gg = g := by simpa [Value.ownBlock] using hg
    subst this
    rcases hat with h | h
    · exact .inl h
    · exact .inr (by have := hTT.size; omega)
  · intro b' h
    cases h
    exact hbn

theorem info_sig : (Try.prog.info? 83).map (fun i => (i.zero, i.size, i.bytes)) = some (some (.agg #[.int .u16 0, .string ⟨#[]⟩]), 2, 24) := by kernel_rfl

set_option maxRecDepth 100000 in
set_option maxHeartbeats 1000000 in
theorem sig_add_old (p o : Nat) (mv : Value) (xs : List Value) (a : Int) (s : ByteArray) (w : World) (hc : w.cell? ⟨p, o + 1, none⟩ = some mv)
    (hs : SetOf w Try.prog 83 mv xs) (hr : (.agg #[.int .u16 a, .string s] : Value) ∈ xs) (hk : IsK Try.prog 83 (.agg #[.int .u16 a, .string s])) :
    Calls Try.prog 37 #[.pointer (some ⟨p, o, none⟩), .agg #[.int .u16 a, .string s]] w fun e w' => e = .returned (.tuple #[]) ∧ Kept w w' := by
  have hlt := World.block_lt_of_cell? w _ hc
  go_enter Try.func37, Try.ntmps37
  go_wp2_with fail
  refine (sig_has p o mv xs a s _ true (by rw [World.cell?_alloc_lt _ _ _ hlt]; exact hc) (hs.alloc _) (by simpa using hr) hk).mono ?_
  rintro e w1 ⟨rfl, hK1⟩
  clear hr hk hs
  go_wp2_with fail
  refine bodyPost_ret (results_none rfl _ _ _) rfl ⟨rfl, ((Turned.refl _ w).alloc _).then_ hK1 (fun _ _ h => h)⟩

set_option maxRecDepth 100000 in
set_option maxHeartbeats 1000000 in
theorem sig_add_some (p o : Nat) (T : TypeId) (cs : Array Value) (sv : Value) (b : Nat) (xs : List Value) (a : Int) (s : ByteArray) (w : World) (hT : T ≠ 83) (hB : Blk w p T cs) (h0 : cs[o]? = some sv) (h1 : cs[o + 1]? = some (.map (some b)))
    (hR : RowIs w Try.prog 83 2 sv (.map (some b)) xs) (hr : (.agg #[.int .u16 a, .string s] : Value) ∉ xs) (hk : IsK Try.prog 83 (.agg #[.int .u16 a, .string s])) (hn : xs.length < 3000) :
    Calls Try.prog 37 #[.pointer (some ⟨p, o, none⟩), .agg #[.int .u16 a, .string s]] w fun e w' => e = .returned (.tuple #[]) ∧ Added Try.prog 83 2 p T o cs sv (.map (some b)) xs (.agg #[.int .u16 a, .string s]) w w' := by
  obtain ⟨i0, hi0, hz0, hz1, hz2⟩ := info_parts info_sig
  have hlt := hB.lt
  have hc1 : w.cell? ⟨p, o + 1, none⟩ = some (.map (some b)) := (hB.cell _).trans h1
  go_enter Try.func37, Try.ntmps37
  go_wp2_with fail
  refine (sig_has p o (.map (some b)) xs a s _ false (by rw [World.cell?_alloc_lt _ _ _ hlt]; exact hc1) (hR.set.alloc _) (by simpa using hr) hk).mono ?_
  rintro e w1 ⟨rfl, hK1⟩
  have HT : Kept w w1 := ((Turned.refl _ w).alloc _).then_ hK1 (fun _ _ h => h)
  have HB : Blk w1 p T cs := hB.turned HT (fun h => h)
  have HX : Blk w1 w.heap.size 83 #[.int .u16 a, .string s] := (Blk.new w _ _).turned hK1 (fun h => h)
  have x0 : w1.cell? ⟨w.heap.size, 0, none⟩ = some (.int .u16 a) := HX.cell _
  have x1 : w1.cell? ⟨w.heap.size, 1, none⟩ = some (.string s) := HX.cell _
  have hlt1 := HB.lt
  have HO : w1.ownsRow 0 83 2 sv xs.length (xs.flatMap (·.cells.toList)) := own_turned hR.own HT (fun _ _ h => h)
  have hneq := fun W => run_eql_map_nil (P := Try.prog) W _ _ _ (some b) Try.underlying68
  have c1 : w1.cell? ⟨p, o + 1, none⟩ = some (.map (some b)) := (HB.cell _).trans h1
  have HM : MapAt w1 Try.prog 83 b (xs.map fun x => (x, .agg #[])) := by
    rcases (hR.set.turned HT (fun _ _ h => h)) with ⟨h, _⟩ | ⟨b', h, hm⟩
    · cases h
    · cases h; exact hm
  obtain ⟨w2, hu, HM2, HT2⟩ := HM.drew.put_at key_sig Try.underlying68 hk (by intro p hp e; obtain ⟨x, hx, rfl⟩ := List.mem_map.1 hp; exact hr (e ▸ hx)) (.agg #[])
  have hpb : p ≠ b := HM.blk_ne HB
  have B2 : Blk w2 p T cs := HB.drew.turned HT2 hpb
  have hxb : w.heap.size ≠ b := HM.blk_ne HX
  have X2 : Blk w2 w.heap.size 83 #[.int .u16 a, .string s] := HX.drew.turned HT2 hxb
  have O2 : w2.ownsRow 0 83 2 sv xs.length (xs.flatMap (·.cells.toList)) := own_turned HO.drew HT2 (fun g hg e => HM.own_ne HO (e ▸ hg))
  have d0 : w2.cell? ⟨p, o, none⟩ = some sv := (B2.cell _).trans h0
  have y0 : w2.cell? ⟨w.heap.size, 0, none⟩ = some (.int .u16 a) := X2.cell _
  have y1 : w2.cell? ⟨w.heap.size, 1, none⟩ = some (.string s) := X2.cell _
  have f0 : w2.frozen? ⟨p, o, none⟩ = false := B2.frozen _
  have ag : sv.ownBlock ≠ some p := own_blk_ne O2 B2 (Ne.symm hT)
  have hlt2 := B2.lt
  have ax : w.heap.size < w2.heap.size := X2.lt
  clear hR hr hk hc1 hlt hB hK1
  go_wp2_with fail
  go_region
  clear hu c1 hneq x0 x1
  go_wp2_with fail
  go_region_law (refine step_append_lies _ (by rfl) _ _ _ (by rfl) 0 83 i0 _ 2 24 Try.underlying67 hi0 hz0 hz1 hz2 rfl (by omega) sv xs.length _ (by rfl) ((O2.alloc _).drew) ⟨w2.heap.size, 0, none⟩ 1 1 [.int .u16 a, .string s] (by rfl) (by rfl) (World.news_of_block (cs := #[.int .u16 a, .string s]) (t := 83) (fr := (0, 0)) (heap_alloc_new w2 _)) (by simp [Value.oneCell']) (by omega) (by unfold maxLen; omega) (by omega) (Nat.zero_le _) (w2.heap.size + 1) (by simp) ?_; intro gg cap w3 O3 hg3 hat hlt3; have B3 : Blk w3 p T _ := (B2.alloc _).drew.grown hg3 (Ne.symm ag); have e0 : w3.cell? ⟨p, o, none⟩ = some sv := (B3.cell _).trans h0; have e1 : w3.frozen? ⟨p, o, none⟩ = false := B3.frozen _)
  all_goals go_end0
  all_goals exact ⟨rfl, added_of (by decide) hT ((HT.mono (fun _ _ h => h.elim)).drew.then_ HT2 (fun _ _ h => .inr (by rw [h]))) (by rw [set_same h1]; exact B2) (.inl rfl) hpb O2 HM2 rfl hg3 O3 hat⟩

set_option maxRecDepth 100000 in
set_option maxHeartbeats 1000000 in
theorem sig_add_nil (p o : Nat) (T : TypeId) (cs : Array Value) (sv : Value) (xs : List Value) (a : Int) (s : ByteArray) (w : World) (hT : T ≠ 83) (hB : Blk w p T cs) (h0 : cs[o]? = some sv) (h1 : cs[o + 1]? = some (.map none))
    (hR : RowIs w Try.prog 83 2 sv (.map none) xs) (hr : (.agg #[.int .u16 a, .string s] : Value) ∉ xs) (hk : IsK Try.prog 83 (.agg #[.int .u16 a, .string s])) (hn : xs.length < 3000) :
    Calls Try.prog 37 #[.pointer (some ⟨p, o, none⟩), .agg #[.int .u16 a, .string s]] w fun e w' => e = .returned (.tuple #[]) ∧ Added Try.prog 83 2 p T o cs sv (.map none) xs (.agg #[.int .u16 a, .string s]) w w' := by
  obtain ⟨i0, hi0, hz0, hz1, hz2⟩ := info_parts info_sig
  have hlt := hB.lt
  have hc1 : w.cell? ⟨p, o + 1, none⟩ = some (.map none) := (hB.cell _).trans h1
  have hmm := @run_makeMap Try.prog
  go_enter Try.func37, Try.ntmps37
  go_wp2_with fail
  refine (sig_has p o (.map none) xs a s _ false (by rw [World.cell?_alloc_lt _ _ _ hlt]; exact hc1) (hR.set.alloc _) (by simpa using hr) hk).mono ?_
  rintro e w1 ⟨rfl, hK1⟩
  have HT : Kept w w1 := ((Turned.refl _ w).alloc _).then_ hK1 (fun _ _ h => h)
  have HB : Blk w1 p T cs := hB.turned HT (fun h => h)
  have HX : Blk w1 w.heap.size 83 #[.int .u16 a, .string s] := (Blk.new w _ _).turned hK1 (fun h => h)
  have x0 : w1.cell? ⟨w.heap.size, 0, none⟩ = some (.int .u16 a) := HX.cell _
  have x1 : w1.cell? ⟨w.heap.size, 1, none⟩ = some (.string s) := HX.cell _
  have hlt1 := HB.lt
  have HO : w1.ownsRow 0 83 2 sv xs.length (xs.flatMap (·.cells.toList)) := own_turned hR.own HT (fun _ _ h => h)
  have hneq := fun W => run_eql_map_nil (P := Try.prog) W _ _ _ none Try.underlying68
  have c1 : w1.cell? ⟨p, o + 1, none⟩ = some (.map none) := (HB.cell _).trans h1
  have f1 : w1.frozen? ⟨p, o + 1, none⟩ = false := HB.frozen _
  have hxs : xs = [] := by
    rcases hR.set with ⟨_, h⟩ | ⟨b', h, _⟩
    · exact h
    · cases h
  have hpb : p ≠ w1.heap.size := by omega
  have es : (w1.setCell ⟨p, o + 1, none⟩ (.map (some w1.heap.size))).heap.size = w1.heap.size := by simp [World.setCell]
  have HM : MapAt ((w1.setCell ⟨p, o + 1, none⟩ (.map (some w1.heap.size))).alloc (.map #[] 0)) Try.prog 83 w1.heap.size (xs.map fun x => (x, .agg #[])) := by
    have h := MapAt.new (w1.setCell ⟨p, o + 1, none⟩ (.map (some w1.heap.size))) Try.prog 83
    rw [es] at h
    rw [hxs]
    exact h
  clear es
  have Hxs := Lib.hid hxs
  clear hxs
  obtain ⟨w2, hu, HM2, HT2⟩ := HM.drew.put_at key_sig Try.underlying68 hk (by intro p hp e; obtain ⟨x, hx, rfl⟩ := List.mem_map.1 hp; exact hr (e ▸ hx)) (.agg #[])
  have B1 := (HB.set_ (o + 1) (.map (some w1.heap.size))).alloc (.map #[] 0)
  have B2 : Blk w2 p T (cs.setIfInBounds (o + 1) (.map (some w1.heap.size))) := B1.drew.turned HT2 hpb
  have hxb : w.heap.size ≠ w1.heap.size := fun h => by have := HX.lt; omega
  have X1 := (HX.far (p := ⟨p, o + 1, none⟩) (show w.heap.size ≠ p by omega) (.map (some w1.heap.size))).alloc (.map #[] 0)
  have z0 : ((w1.setCell ⟨p, o + 1, none⟩ (.map (some w1.heap.size))).alloc (.map #[] 0)).cell? ⟨w.heap.size, 0, none⟩ = some (.int .u16 a) := X1.cell _
  have z1 : ((w1.setCell ⟨p, o + 1, none⟩ (.map (some w1.heap.size))).alloc (.map #[] 0)).cell? ⟨w.heap.size, 1, none⟩ = some (.string s) := X1.cell _

  have X2 : Blk w2 w.heap.size 83 #[.int .u16 a, .string s] := X1.drew.turned HT2 hxb
  have O1 := own_turned HO (((Turned.refl (fun i => i = p) w1).setCell (p := ⟨p, o + 1, none⟩) (fun _ => rfl) (.map (some w1.heap.size))).alloc (.map #[] 0)) (fun g hg e => own_blk_ne HO HB (Ne.symm hT) (e ▸ hg))
  have O2 : w2.ownsRow 0 83 2 sv xs.length (xs.flatMap (·.cells.toList)) := own_turned (w := (((w1.setCell ⟨p, o + 1, none⟩ (.map (some w1.heap.size))).alloc (.map #[] 0))).drew) O1 HT2 (fun g hg e => by have := own_lt HO hg; omega)
  have d0 : w2.cell? ⟨p, o, none⟩ = some sv := (B2.cell _).trans (by rw [Array.getElem?_setIfInBounds_ne (by omega)]; exact h0)
  have y0 : w2.cell? ⟨w.heap.size, 0, none⟩ = some (.int .u16 a) := X2.cell _
  have y1 : w2.cell? ⟨w.heap.size, 1, none⟩ = some (.string s) := X2.cell _
  have f0 : w2.frozen? ⟨p, o, none⟩ = false := B2.frozen _
  have ag : sv.ownBlock ≠ some p := own_blk_ne O2 B2 (Ne.symm hT)
  have hlt2 := B2.lt
  have ax : w.heap.size < w2.heap.size := X2.lt
  clear hR hr hk hc1 hlt hB hK1
  go_wp2_with fail
  go_region
  clear hu c1 hneq x0 x1 f1 hmm z0 z1
  go_wp2_with fail
  go_region_law (refine step_append_lies _ (by rfl) _ _ _ (by rfl) 0 83 i0 _ 2 24 Try.underlying67 hi0 hz0 hz1 hz2 rfl (by omega) sv xs.length _ (by rfl) ((O2.alloc _).drew) ⟨w2.heap.size, 0, none⟩ 1 1 [.int .u16 a, .string s] (by rfl) (by rfl) (World.news_of_block (cs := #[.int .u16 a, .string s]) (t := 83) (fr := (0, 0)) (heap_alloc_new w2 _)) (by simp [Value.oneCell']) (by omega) (by unfold maxLen; omega) (by omega) (Nat.zero_le _) (w2.heap.size + 1) (by simp) ?_; intro gg cap w3 O3 hg3 hat hlt3; have B3 : Blk w3 p T _ := (B2.alloc _).drew.grown hg3 (Ne.symm ag); have e0 : w3.cell? ⟨p, o, none⟩ = some sv := (B3.cell _).trans (by rw [Array.getElem?_setIfInBounds_ne (by omega)]; exact h0); have e1 : w3.frozen? ⟨p, o, none⟩ = false := B3.frozen _)
  all_goals go_end0
  all_goals exact ⟨rfl, added_of (by decide) hT (((((HT.mono (fun _ _ h => h.elim)).setCell (p := ⟨p, o + 1, none⟩) (fun _ => .inl rfl) _).alloc _).drew).then_ HT2 (fun i hi h => by have := HT.size; omega)) B2 (.inr HT.size) hpb O2 HM2 rfl hg3 O3 hat⟩

theorem info_made : (Try.prog.info? 88).map (fun i => (i.zero, i.size, i.bytes)) = some (some (.agg #[.int .u16 0, .int .i64 0, .int .i64 0, .string ⟨#[]⟩, .int .i64 0]), 5, 48) := by kernel_rfl

set_option maxRecDepth 100000 in
set_option maxHeartbeats 1000000 in
theorem made_add_old (p o : Nat) (mv : Value) (xs : List Value) (a wy sq : Int) (s : ByteArray) (y : Int) (w : World) (hc : w.cell? ⟨p, o + 1, none⟩ = some mv)
    (hs : SetOf w Try.prog 88 mv xs) (hr : (.agg #[.int .u16 a, .int .i64 wy, .int .i64 sq, .string s, .int .i64 y] : Value) ∈ xs) (hk : IsK Try.prog 88 (.agg #[.int .u16 a, .int .i64 wy, .int .i64 sq, .string s, .int .i64 y])) :
    Calls Try.prog 39 #[.pointer (some ⟨p, o, none⟩), .agg #[.int .u16 a, .int .i64 wy, .int .i64 sq, .string s, .int .i64 y]] w fun e w' => e = .returned (.tuple #[]) ∧ Kept w w' := by
  have hlt := World.block_lt_of_cell? w _ hc
  go_enter Try.func39, Try.ntmps39
  go_wp2_with fail
  refine (made_has p o mv xs a wy sq s y _ true (by rw [World.cell?_alloc_lt _ _ _ hlt]; exact hc) (hs.alloc _) (by simpa using hr) hk).mono ?_
  rintro e w1 ⟨rfl, hK1⟩
  clear hr hk hs
  go_wp2_with fail
  refine bodyPost_ret (results_none rfl _ _ _) rfl ⟨rfl, ((Turned.refl _ w).alloc _).then_ hK1 (fun _ _ h => h)⟩

set_option maxRecDepth 100000 in
set_option maxHeartbeats 1000000 in
theorem made_add_some (p o : Nat) (T : TypeId) (cs : Array Value) (sv : Value) (b : Nat) (xs : List Value) (a wy sq : Int) (s : ByteArray) (y : Int) (w : World) (hT : T ≠ 88) (hB : Blk w p T cs) (h0 : cs[o]? = some sv) (h1 : cs[o + 1]? = some (.map (some b)))
    (hR : RowIs w Try.prog 88 5 sv (.map (some b)) xs) (hr : (.agg #[.int .u16 a, .int .i64 wy, .int .i64 sq, .string s, .int .i64 y] : Value) ∉ xs) (hk : IsK Try.prog 88 (.agg #[.int .u16 a, .int .i64 wy, .int .i64 sq, .string s, .int .i64 y])) (hn : xs.length < 3000) :
    Calls Try.prog 39 #[.pointer (some ⟨p, o, none⟩), .agg #[.int .u16 a, .int .i64 wy, .int .i64 sq, .string s, .int .i64 y]] w fun e w' => e = .returned (.tuple #[]) ∧ Added Try.prog 88 5 p T o cs sv (.map (some b)) xs (.agg #[.int .u16 a, .int .i64 wy, .int .i64 sq, .string s, .int .i64 y]) w w' := by
  obtain ⟨i0, hi0, hz0, hz1, hz2⟩ := info_parts info_made
  have hlt := hB.lt
  have hc1 : w.cell? ⟨p, o + 1, none⟩ = some (.map (some b)) := (hB.cell _).trans h1
  go_enter Try.func39, Try.ntmps39
  go_wp2_with fail
  refine (made_has p o (.map (some b)) xs a wy sq s y _ false (by rw [World.cell?_alloc_lt _ _ _ hlt]; exact hc1) (hR.set.alloc _) (by simpa using hr) hk).mono ?_
  rintro e w1 ⟨rfl, hK1⟩
  have HT : Kept w w1 := ((Turned.refl _ w).alloc _).then_ hK1 (fun _ _ h => h)
  have HB : Blk w1 p T cs := hB.turned HT (fun h => h)
  have HX : Blk w1 w.heap.size 88 #[.int .u16 a, .int .i64 wy, .int .i64 sq, .string s, .int .i64 y] := (Blk.new w _ _).turned hK1 (fun h => h)
  have x0 : w1.cell? ⟨w.heap.size, 0, none⟩ = some (.int .u16 a) := HX.cell _
  have x1 : w1.cell? ⟨w.heap.size, 1, none⟩ = some (.int .i64 wy) := HX.cell _
  have x2 : w1.cell? ⟨w.heap.size, 2, none⟩ = some (.int .i64 sq) := HX.cell _
  have x3 : w1.cell? ⟨w.heap.size, 3, none⟩ = some (.string s) := HX.cell _
  have x4 : w1.cell? ⟨w.heap.size, 4, none⟩ = some (.int .i64 y) := HX.cell _
  have hlt1 := HB.lt
  have HO : w1.ownsRow 0 88 5 sv xs.length (xs.flatMap (·.cells.toList)) := own_turned hR.own HT (fun _ _ h => h)
  have hneq := fun W => run_eql_map_nil (P := Try.prog) W _ _ _ (some b) Try.underlying72
  have c1 : w1.cell? ⟨p, o + 1, none⟩ = some (.map (some b)) := (HB.cell _).trans h1
  have HM : MapAt w1 Try.prog 88 b (xs.map fun x => (x, .agg #[])) := by
    rcases (hR.set.turned HT (fun _ _ h => h)) with ⟨h, _⟩ | ⟨b', h, hm⟩
    · cases h
    · cases h; exact hm
  obtain ⟨w2, hu, HM2, HT2⟩ := HM.drew.put_at key_made Try.underlying72 hk (by intro p hp e; obtain ⟨x, hx, rfl⟩ := List.mem_map.1 hp; exact hr (e ▸ hx)) (.agg #[])
  have hpb : p ≠ b := HM.blk_ne HB
  have B2 : Blk w2 p T cs := HB.drew.turned HT2 hpb
  have hxb : w.heap.size ≠ b := HM.blk_ne HX
  have X2 : Blk w2 w.heap.size 88 #[.int .u16 a, .int .i64 wy, .int .i64 sq, .string s, .int .i64 y] := HX.drew.turned HT2 hxb
  have O2 : w2.ownsRow 0 88 5 sv xs.length (xs.flatMap (·.cells.toList)) := own_turned HO.drew HT2 (fun g hg e => HM.own_ne HO (e ▸ hg))
  have d0 : w2.cell? ⟨p, o, none⟩ = some sv := (B2.cell _).trans h0
  have y0 : w2.cell? ⟨w.heap.size, 0, none⟩ = some (.int .u16 a) := X2.cell _
  have y1 : w2.cell? ⟨w.heap.size, 1, none⟩ = some (.int .i64 wy) := X2.cell _
  have y2 : w2.cell? ⟨w.heap.size, 2, none⟩ = some (.int .i64 sq) := X2.cell _
  have y3 : w2.cell? ⟨w.heap.size, 3, none⟩ = some (.string s) := X2.cell _
  have y4 : w2.cell? ⟨w.heap.size, 4, none⟩ = some (.int .i64 y) := X2.cell _
  have f0 : w2.frozen? ⟨p, o, none⟩ = false := B2.frozen _
  have ag : sv.ownBlock ≠ some p := own_blk_ne O2 B2 (Ne.symm hT)
  have hlt2 := B2.lt
  have ax : w.heap.size < w2.heap.size := X2.lt
  clear hR hr hk hc1 hlt hB hK1
  go_wp2_with fail
  go_region
  clear hu c1 hneq x0 x1 x2 x3 x4
  go_wp2_with fail
  go_region_law (refine step_append_lies _ (by rfl) _ _ _ (by rfl) 0 88 i0 _ 5 48 Try.underlying71 hi0 hz0 hz1 hz2 rfl (by omega) sv xs.length _ (by rfl) ((O2.alloc _).drew) ⟨w2.heap.size, 0, none⟩ 1 1 [.int .u16 a, .int .i64 wy, .int .i64 sq, .string s, .int .i64 y] (by rfl) (by rfl) (World.news_of_block (cs := #[.int .u16 a, .int .i64 wy, .int .i64 sq, .string s, .int .i64 y]) (t := 88) (fr := (0, 0)) (heap_alloc_new w2 _)) (by simp [Value.oneCell']) (by omega) (by unfold maxLen; omega) (by omega) (Nat.zero_le _) (w2.heap.size + 1) (by simp) ?_; intro gg cap w3 O3 hg3 hat hlt3; have B3 : Blk w3 p T _ := (B2.alloc _).drew.grown hg3 (Ne.symm ag); have e0 : w3.cell? ⟨p, o, none⟩ = some sv := (B3.cell _).trans h0; have e1 : w3.frozen? ⟨p, o, none⟩ = false := B3.frozen _)
  all_goals go_end0
  all_goals exact ⟨rfl, added_of (by decide) hT ((HT.mono (fun _ _ h => h.elim)).drew.then_ HT2 (fun _ _ h => .inr (by rw [h]))) (by rw [set_same h1]; exact B2) (.inl rfl) hpb O2 HM2 rfl hg3 O3 hat⟩

set_option maxRecDepth 100000 in
set_option maxHeartbeats 1000000 in
theorem made_add_nil (p o : Nat) (T : TypeId) (cs : Array Value) (sv : Value) (xs : List Value) (a wy sq : Int) (s : ByteArray) (y : Int) (w : World) (hT : T ≠ 88) (hB : Blk w p T cs) (h0 : cs[o]? = some sv) (h1 : cs[o + 1]? = some (.map none))
    (hR : RowIs w Try.prog 88 5 sv (.map none) xs) (hr : (.agg #[.int .u16 a, .int .i64 wy, .int .i64 sq, .string s, .int .i64 y] : Value) ∉ xs) (hk : IsK Try.prog 88 (.agg #[.int .u16 a, .int .i64 wy, .int .i64 sq, .string s, .int .i64 y])) (hn : xs.length < 3000) :
    Calls Try.prog 39 #[.pointer (some ⟨p, o, none⟩), .agg #[.int .u16 a, .int .i64 wy, .int .i64 sq, .string s, .int .i64 y]] w fun e w' => e = .returned (.tuple #[]) ∧ Added Try.prog 88 5 p T o cs sv (.map none) xs (.agg #[.int .u16 a, .int .i64 wy, .int .i64 sq, .string s, .int .i64 y]) w w' := by
  obtain ⟨i0, hi0, hz0, hz1, hz2⟩ := info_parts info_made
  have hlt := hB.lt
  have hc1 : w.cell? ⟨p, o + 1, none⟩ = some (.map none) := (hB.cell _).trans h1
  have hmm := @run_makeMap Try.prog
  go_enter Try.func39, Try.ntmps39
  go_wp2_with fail
  refine (made_has p o (.map none) xs a wy sq s y _ false (by rw [World.cell?_alloc_lt _ _ _ hlt]; exact hc1) (hR.set.alloc _) (by simpa using hr) hk).mono ?_
  rintro e w1 ⟨rfl, hK1⟩
  have HT : Kept w w1 := ((Turned.refl _ w).alloc _).then_ hK1 (fun _ _ h => h)
  have HB : Blk w1 p T cs := hB.turned HT (fun h => h)
  have HX : Blk w1 w.heap.size 88 #[.int .u16 a, .int .i64 wy, .int .i64 sq, .string s, .int .i64 y] := (Blk.new w _ _).turned hK1 (fun h => h)
  have x0 : w1.cell? ⟨w.heap.size, 0, none⟩ = some (.int .u16 a) := HX.cell _
  have x1 : w1.cell? ⟨w.heap.size, 1, none⟩ = some (.int .i64 wy) := HX.cell _
  have x2 : w1.cell? ⟨w.heap.size, 2, none⟩ = some (.int .i64 sq) := HX.cell _
  have x3 : w1.cell? ⟨w.heap.size, 3, none⟩ = some (.string s) := HX.cell _
  have x4 : w1.cell? ⟨w.heap.size, 4, none⟩ = some (.int .i64 y) := HX.cell _
  have hlt1 := HB.lt
  have HO : w1.ownsRow 0 88 5 sv xs.length (xs.flatMap (·.cells.toList)) := own_turned hR.own HT (fun _ _ h => h)
  have hneq := fun W => run_eql_map_nil (P := Try.prog) W _ _ _ none Try.underlying72
  have c1 : w1.cell? ⟨p, o + 1, none⟩ = some (.map none) := (HB.cell _).trans h1
  have f1 : w1.frozen? ⟨p, o + 1, none⟩ = false := HB.frozen _
  have hxs : xs = [] := by
    rcases hR.set with ⟨_, h⟩ | ⟨b', h, _⟩
    · exact h
    · cases h
  have hpb : p ≠ w1.heap.size := by omega
  have es : (w1.setCell ⟨p, o + 1, none⟩ (.map (some w1.heap.size))).heap.size = w1.heap.size := by simp [World.setCell]
  have HM : MapAt ((w1.setCell ⟨p, o + 1, none⟩ (.map (some w1.heap.size))).alloc (.map #[] 0)) Try.prog 88 w1.heap.size (xs.map fun x => (x, .agg #[])) := by
    have h := MapAt.new (w1.setCell ⟨p, o + 1, none⟩ (.map (some w1.heap.size))) Try.prog 88
    rw [es] at h
    rw [hxs]
    exact h
  clear es
  have Hxs := Lib.hid hxs
  clear hxs
  obtain ⟨w2, hu, HM2, HT2⟩ := HM.drew.put_at key_made Try.underlying72 hk (by intro p hp e; obtain ⟨x, hx, rfl⟩ := List.mem_map.1 hp; exact hr (e ▸ hx)) (.agg #[])
  have B1 := (HB.set_ (o + 1) (.map (some w1.heap.size))).alloc (.map #[] 0)
  have B2 : Blk w2 p T (cs.setIfInBounds (o + 1) (.map (some w1.heap.size))) := B1.drew.turned HT2 hpb
  have hxb : w.heap.size ≠ w1.heap.size := fun h => by have := HX.lt; omega
  have X1 := (HX.far (p := ⟨p, o + 1, none⟩) (show w.heap.size ≠ p by omega) (.map (some w1.heap.size))).alloc (.map #[] 0)
  have z0 : ((w1.setCell ⟨p, o + 1, none⟩ (.map (some w1.heap.size))).alloc (.map #[] 0)).cell? ⟨w.heap.size, 0, none⟩ = some (.int .u16 a) := X1.cell _
  have z1 : ((w1.setCell ⟨p, o + 1, none⟩ (.map (some w1.heap.size))).alloc (.map #[] 0)).cell? ⟨w.heap.size, 1, none⟩ = some (.int .i64 wy) := X1.cell _
  have z2 : ((w1.setCell ⟨p, o + 1, none⟩ (.map (some w1.heap.size))).alloc (.map #[] 0)).cell? ⟨w.heap.size, 2, none⟩ = some (.int .i64 sq) := X1.cell _
  have z3 : ((w1.setCell ⟨p, o + 1, none⟩ (.map (some w1.heap.size))).alloc (.map #[] 0)).cell? ⟨w.heap.size, 3, none⟩ = some (.string s) := X1.cell _
  have z4 : ((w1.setCell ⟨p, o + 1, none⟩ (.map (some w1.heap.size))).alloc (.map #[] 0)).cell? ⟨w.heap.size, 4, none⟩ = some (.int .i64 y) := X1.cell _

  have X2 : Blk w2 w.heap.size 88 #[.int .u16 a, .int .i64 wy, .int .i64 sq, .string s, .int .i64 y] := X1.drew.turned HT2 hxb
  have O1 := own_turned HO (((Turned.refl (fun i => i = p) w1).setCell (p := ⟨p, o + 1, none⟩) (fun _ => rfl) (.map (some w1.heap.size))).alloc (.map #[] 0)) (fun g hg e => own_blk_ne HO HB (Ne.symm hT) (e ▸ hg))
  have O2 : w2.ownsRow 0 88 5 sv xs.length (xs.flatMap (·.cells.toList)) := own_turned (w := (((w1.setCell ⟨p, o + 1, none⟩ (.map (some w1.heap.size))).alloc (.map #[] 0))).drew) O1 HT2 (fun g hg e => by have := own_lt HO hg; omega)
  have d0 : w2.cell? ⟨p, o, none⟩ = some sv := (B2.cell _).trans (by rw [Array.getElem?_setIfInBounds_ne (by omega)]; exact h0)
  have y0 : w2.cell? ⟨w.heap.size, 0, none⟩ = some (.int .u16 a) := X2.cell _
  have y1 : w2.cell? ⟨w.heap.size, 1, none⟩ = some (.int .i64 wy) := X2.cell _
  have y2 : w2.cell? ⟨w.heap.size, 2, none⟩ = some (.int .i64 sq) := X2.cell _
  have y3 : w2.cell? ⟨w.heap.size, 3, none⟩ = some (.string s) := X2.cell _
  have y4 : w2.cell? ⟨w.heap.size, 4, none⟩ = some (.int .i64 y) := X2.cell _
  have f0 : w2.frozen? ⟨p, o, none⟩ = false := B2.frozen _
  have ag : sv.ownBlock ≠ some p := own_blk_ne O2 B2 (Ne.symm hT)
  have hlt2 := B2.lt
  have ax : w.heap.size < w2.heap.size := X2.lt
  clear hR hr hk hc1 hlt hB hK1
  go_wp2_with fail
  go_region
  clear hu c1 hneq x0 x1 x2 x3 x4 f1 hmm z0 z1 z2 z3 z4
  go_wp2_with fail
  go_region_law (refine step_append_lies _ (by rfl) _ _ _ (by rfl) 0 88 i0 _ 5 48 Try.underlying71 hi0 hz0 hz1 hz2 rfl (by omega) sv xs.length _ (by rfl) ((O2.alloc _).drew) ⟨w2.heap.size, 0, none⟩ 1 1 [.int .u16 a, .int .i64 wy, .int .i64 sq, .string s, .int .i64 y] (by rfl) (by rfl) (World.news_of_block (cs := #[.int .u16 a, .int .i64 wy, .int .i64 sq, .string s, .int .i64 y]) (t := 88) (fr := (0, 0)) (heap_alloc_new w2 _)) (by simp [Value.oneCell']) (by omega) (by unfold maxLen; omega) (by omega) (Nat.zero_le _) (w2.heap.size + 1) (by simp) ?_; intro gg cap w3 O3 hg3 hat hlt3; have B3 : Blk w3 p T _ := (B2.alloc _).drew.grown hg3 (Ne.symm ag); have e0 : w3.cell? ⟨p, o, none⟩ = some sv := (B3.cell _).trans (by rw [Array.getElem?_setIfInBounds_ne (by omega)]; exact h0); have e1 : w3.frozen? ⟨p, o, none⟩ = false := B3.frozen _)
  all_goals go_end0
  all_goals exact ⟨rfl, added_of (by decide) hT (((((HT.mono (fun _ _ h => h.elim)).setCell (p := ⟨p, o + 1, none⟩) (fun _ => .inl rfl) _).alloc _).drew).then_ HT2 (fun i hi h => by have := HT.size; omega)) B2 (.inr HT.size) hpb O2 HM2 rfl hg3 O3 hat⟩

theorem info_mac : (Try.prog.info? 36).map (fun i => (i.zero, i.size, i.bytes)) = some (some (.agg #[.int .u16 0, .int .i64 0, .int .i64 0, .string ⟨#[]⟩]), 4, 40) := by kernel_rfl

set_option maxRecDepth 100000 in
set_option maxHeartbeats 1000000 in
theorem mac_add_old (p o : Nat) (mv : Value) (xs : List Value) (a wy sq : Int) (s : ByteArray) (w : World) (hc : w.cell? ⟨p, o + 1, none⟩ = some mv)
    (hs : SetOf w Try.prog 36 mv xs) (hr : (.agg #[.int .u16 a, .int .i64 wy, .int .i64 sq, .string s] : Value) ∈ xs) (hk : IsK Try.prog 36 (.agg #[.int .u16 a, .int .i64 wy, .int .i64 sq, .string s])) :
    Calls Try.prog 36 #[.pointer (some ⟨p, o, none⟩), .agg #[.int .u16 a, .int .i64 wy, .int .i64 sq, .string s]] w fun e w' => e = .returned (.tuple #[]) ∧ Kept w w' := by
  have hlt := World.block_lt_of_cell? w _ hc
  go_enter Try.func36, Try.ntmps36
  go_wp2_with fail
  refine (mac_has p o mv xs a wy sq s _ true (by rw [World.cell?_alloc_lt _ _ _ hlt]; exact hc) (hs.alloc _) (by simpa using hr) hk).mono ?_
  rintro e w1 ⟨rfl, hK1⟩
  clear hr hk hs
  go_wp2_with fail
  refine bodyPost_ret (results_none rfl _ _ _) rfl ⟨rfl, ((Turned.refl _ w).alloc _).then_ hK1 (fun _ _ h => h)⟩

set_option maxRecDepth 100000 in
set_option maxHeartbeats 1000000 in
theorem mac_add_some (p o : Nat) (T : TypeId) (cs : Array Value) (sv : Value) (b : Nat) (xs : List Value) (a wy sq : Int) (s : ByteArray) (w : World) (hT : T ≠ 36) (hB : Blk w p T cs) (h0 : cs[o]? = some sv) (h1 : cs[o + 1]? = some (.map (some b)))
    (hR : RowIs w Try.prog 36 4 sv (.map (some b)) xs) (hr : (.agg #[.int .u16 a, .int .i64 wy, .int .i64 sq, .string s] : Value) ∉ xs) (hk : IsK Try.prog 36 (.agg #[.int .u16 a, .int .i64 wy, .int .i64 sq, .string s])) (hn : xs.length < 3000) :
    Calls Try.prog 36 #[.pointer (some ⟨p, o, none⟩), .agg #[.int .u16 a, .int .i64 wy, .int .i64 sq, .string s]] w fun e w' => e = .returned (.tuple #[]) ∧ Added Try.prog 36 4 p T o cs sv (.map (some b)) xs (.agg #[.int .u16 a, .int .i64 wy, .int .i64 sq, .string s]) w w' := by
  obtain ⟨i0, hi0, hz0, hz1, hz2⟩ := info_parts info_mac
  have hlt := hB.lt
  have hc1 : w.cell? ⟨p, o + 1, none⟩ = some (.map (some b)) := (hB.cell _).trans h1
  go_enter Try.func36, Try.ntmps36
  go_wp2_with fail
  refine (mac_has p o (.map (some b)) xs a wy sq s _ false (by rw [World.cell?_alloc_lt _ _ _ hlt]; exact hc1) (hR.set.alloc _) (by simpa using hr) hk).mono ?_
  rintro e w1 ⟨rfl, hK1⟩
  have HT : Kept w w1 := ((Turned.refl _ w).alloc _).then_ hK1 (fun _ _ h => h)
  have HB : Blk w1 p T cs := hB.turned HT (fun h => h)
  have HX : Blk w1 w.heap.size 36 #[.int .u16 a, .int .i64 wy, .int .i64 sq, .string s] := (Blk.new w _ _).turned hK1 (fun h => h)
  have x0 : w1.cell? ⟨w.heap.size, 0, none⟩ = some (.int .u16 a) := HX.cell _
  have x1 : w1.cell? ⟨w.heap.size, 1, none⟩ = some (.int .i64 wy) := HX.cell _
  have x2 : w1.cell? ⟨w.heap.size, 2, none⟩ = some (.int .i64 sq) := HX.cell _
  have x3 : w1.cell? ⟨w.heap.size, 3, none⟩ = some (.string s) := HX.cell _
  have hlt1 := HB.lt
  have HO : w1.ownsRow 0 36 4 sv xs.length (xs.flatMap (·.cells.toList)) := own_turned hR.own HT (fun _ _ h => h)
  have hneq := fun W => run_eql_map_nil (P := Try.prog) W _ _ _ (some b) Try.underlying94
  have c1 : w1.cell? ⟨p, o + 1, none⟩ = some (.map (some b)) := (HB.cell _).trans h1
  have HM : MapAt w1 Try.prog 36 b (xs.map fun x => (x, .agg #[])) := by
    rcases (hR.set.turned HT (fun _ _ h => h)) with ⟨h, _⟩ | ⟨b', h, hm⟩
    · cases h
    · cases h; exact hm
  obtain ⟨w2, hu, HM2, HT2⟩ := HM.drew.put_at key_mac Try.underlying94 hk (by intro p hp e; obtain ⟨x, hx, rfl⟩ := List.mem_map.1 hp; exact hr (e ▸ hx)) (.agg #[])
  have hpb : p ≠ b := HM.blk_ne HB
  have B2 : Blk w2 p T cs := HB.drew.turned HT2 hpb
  have hxb : w.heap.size ≠ b := HM.blk_ne HX
  have X2 : Blk w2 w.heap.size 36 #[.int .u16 a, .int .i64 wy, .int .i64 sq, .string s] := HX.drew.turned HT2 hxb
  have O2 : w2.ownsRow 0 36 4 sv xs.length (xs.flatMap (·.cells.toList)) := own_turned HO.drew HT2 (fun g hg e => HM.own_ne HO (e ▸ hg))
  have d0 : w2.cell? ⟨p, o, none⟩ = some sv := (B2.cell _).trans h0
  have y0 : w2.cell? ⟨w.heap.size, 0, none⟩ = some (.int .u16 a) := X2.cell _
  have y1 : w2.cell? ⟨w.heap.size, 1, none⟩ = some (.int .i64 wy) := X2.cell _
  have y2 : w2.cell? ⟨w.heap.size, 2, none⟩ = some (.int .i64 sq) := X2.cell _
  have y3 : w2.cell? ⟨w.heap.size, 3, none⟩ = some (.string s) := X2.cell _
  have f0 : w2.frozen? ⟨p, o, none⟩ = false := B2.frozen _
  have ag : sv.ownBlock ≠ some p := own_blk_ne O2 B2 (Ne.symm hT)
  have hlt2 := B2.lt
  have ax : w.heap.size < w2.heap.size := X2.lt
  clear hR hr hk hc1 hlt hB hK1
  go_wp2_with fail
  go_region
  clear hu c1 hneq x0 x1 x2 x3
  go_wp2_with fail
  go_region_law (refine step_append_lies _ (by rfl) _ _ _ (by rfl) 0 36 i0 _ 4 40 Try.underlying50 hi0 hz0 hz1 hz2 rfl (by omega) sv xs.length _ (by rfl) ((O2.alloc _).drew) ⟨w2.heap.size, 0, none⟩ 1 1 [.int .u16 a, .int .i64 wy, .int .i64 sq, .string s] (by rfl) (by rfl) (World.news_of_block (cs := #[.int .u16 a, .int .i64 wy, .int .i64 sq, .string s]) (t := 36) (fr := (0, 0)) (heap_alloc_new w2 _)) (by simp [Value.oneCell']) (by omega) (by unfold maxLen; omega) (by omega) (Nat.zero_le _) (w2.heap.size + 1) (by simp) ?_; intro gg cap w3 O3 hg3 hat hlt3; have B3 : Blk w3 p T _ := (B2.alloc _).drew.grown hg3 (Ne.symm ag); have e0 : w3.cell? ⟨p, o, none⟩ = some sv := (B3.cell _).trans h0; have e1 : w3.frozen? ⟨p, o, none⟩ = false := B3.frozen _)
  all_goals go_end0
  all_goals exact ⟨rfl, added_of (by decide) hT ((HT.mono (fun _ _ h => h.elim)).drew.then_ HT2 (fun _ _ h => .inr (by rw [h]))) (by rw [set_same h1]; exact B2) (.inl rfl) hpb O2 HM2 rfl hg3 O3 hat⟩

set_option maxRecDepth 100000 in
set_option maxHeartbeats 1000000 in
theorem mac_add_nil (p o : Nat) (T : TypeId) (cs : Array Value) (sv : Value) (xs : List Value) (a wy sq : Int) (s : ByteArray) (w : World) (hT : T ≠ 36) (hB : Blk w p T cs) (h0 : cs[o]? = some sv) (h1 : cs[o + 1]? = some (.map none))
    (hR : RowIs w Try.prog 36 4 sv (.map none) xs) (hr : (.agg #[.int .u16 a, .int .i64 wy, .int .i64 sq, .string s] : Value) ∉ xs) (hk : IsK Try.prog 36 (.agg #[.int .u16 a, .int .i64 wy, .int .i64 sq, .string s])) (hn : xs.length < 3000) :
    Calls Try.prog 36 #[.pointer (some ⟨p, o, none⟩), .agg #[.int .u16 a, .int .i64 wy, .int .i64 sq, .string s]] w fun e w' => e = .returned (.tuple #[]) ∧ Added Try.prog 36 4 p T o cs sv (.map none) xs (.agg #[.int .u16 a, .int .i64 wy, .int .i64 sq, .string s]) w w' := by
  obtain ⟨i0, hi0, hz0, hz1, hz2⟩ := info_parts info_mac
  have hlt := hB.lt
  have hc1 : w.cell? ⟨p, o + 1, none⟩ = some (.map none) := (hB.cell _).trans h1
  have hmm := @run_makeMap Try.prog
  go_enter Try.func36, Try.ntmps36
  go_wp2_with fail
  refine (mac_has p o (.map none) xs a wy sq s _ false (by rw [World.cell?_alloc_lt _ _ _ hlt]; exact hc1) (hR.set.alloc _) (by simpa using hr) hk).mono ?_
  rintro e w1 ⟨rfl, hK1⟩
  have HT : Kept w w1 := ((Turned.refl _ w).alloc _).then_ hK1 (fun _ _ h => h)
  have HB : Blk w1 p T cs := hB.turned HT (fun h => h)
  have HX : Blk w1 w.heap.size 36 #[.int .u16 a, .int .i64 wy, .int .i64 sq, .string s] := (Blk.new w _ _).turned hK1 (fun h => h)
  have x0 : w1.cell? ⟨w.heap.size, 0, none⟩ = some (.int .u16 a) := HX.cell _
  have x1 : w1.cell? ⟨w.heap.size, 1, none⟩ = some (.int .i64 wy) := HX.cell _
  have x2 : w1.cell? ⟨w.heap.size, 2, none⟩ = some (.int .i64 sq) := HX.cell _
  have x3 : w1.cell? ⟨w.heap.size, 3, none⟩ = some (.string s) := HX.cell _
  have hlt1 := HB.lt
  have HO : w1.ownsRow 0 36 4 sv xs.length (xs.flatMap (·.cells.toList)) := own_turned hR.own HT (fun _ _ h => h)
  have hneq := fun W => run_eql_map_nil (P := Try.prog) W _ _ _ none Try.underlying94
  have c1 : w1.cell? ⟨p, o + 1, none⟩ = some (.map none) := (HB.cell _).trans h1
  have f1 : w1.frozen? ⟨p, o + 1, none⟩ = false := HB.frozen _
  have hxs : xs = [] := by
    rcases hR.set with ⟨_, h⟩ | ⟨b', h, _⟩
    · exact h
    · cases h
  have hpb : p ≠ w1.heap.size := by omega
  have es : (w1.setCell ⟨p, o + 1, none⟩ (.map (some w1.heap.size))).heap.size = w1.heap.size := by simp [World.setCell]
  have HM : MapAt ((w1.setCell ⟨p, o + 1, none⟩ (.map (some w1.heap.size))).alloc (.map #[] 0)) Try.prog 36 w1.heap.size (xs.map fun x => (x, .agg #[])) := by
    have h := MapAt.new (w1.setCell ⟨p, o + 1, none⟩ (.map (some w1.heap.size))) Try.prog 36
    rw [es] at h
    rw [hxs]
    exact h
  clear es
  have Hxs := Lib.hid hxs
  clear hxs
  obtain ⟨w2, hu, HM2, HT2⟩ := HM.drew.put_at key_mac Try.underlying94 hk (by intro p hp e; obtain ⟨x, hx, rfl⟩ := List.mem_map.1 hp; exact hr (e ▸ hx)) (.agg #[])
  have B1 := (HB.set_ (o + 1) (.map (some w1.heap.size))).alloc (.map #[] 0)
  have B2 : Blk w2 p T (cs.setIfInBounds (o + 1) (.map (some w1.heap.size))) := B1.drew.turned HT2 hpb
  have hxb : w.heap.size ≠ w1.heap.size := fun h => by have := HX.lt; omega
  have X1 := (HX.far (p := ⟨p, o + 1, none⟩) (show w.heap.size ≠ p by omega) (.map (some w1.heap.size))).alloc (.map #[] 0)
  have z0 : ((w1.setCell ⟨p, o + 1, none⟩ (.map (some w1.heap.size))).alloc (.map #[] 0)).cell? ⟨w.heap.size, 0, none⟩ = some (.int .u16 a) := X1.cell _
  have z1 : ((w1.setCell ⟨p, o + 1, none⟩ (.map (some w1.heap.size))).alloc (.map #[] 0)).cell? ⟨w.heap.size, 1, none⟩ = some (.int .i64 wy) := X1.cell _
  have z2 : ((w1.setCell ⟨p, o + 1, none⟩ (.map (some w1.heap.size))).alloc (.map #[] 0)).cell? ⟨w.heap.size, 2, none⟩ = some (.int .i64 sq) := X1.cell _
  have z3 : ((w1.setCell ⟨p, o + 1, none⟩ (.map (some w1.heap.size))).alloc (.map #[] 0)).cell? ⟨w.heap.size, 3, none⟩ = some (.string s) := X1.cell _

  have X2 : Blk w2 w.heap.size 36 #[.int .u16 a, .int .i64 wy, .int .i64 sq, .string s] := X1.drew.turned HT2 hxb
  have O1 := own_turned HO (((Turned.refl (fun i => i = p) w1).setCell (p := ⟨p, o + 1, none⟩) (fun _ => rfl) (.map (some w1.heap.size))).alloc (.map #[] 0)) (fun g hg e => own_blk_ne HO HB (Ne.symm hT) (e ▸ hg))
  have O2 : w2.ownsRow 0 36 4 sv xs.length (xs.flatMap (·.cells.toList)) := own_turned (w := (((w1.setCell ⟨p, o + 1, none⟩ (.map (some w1.heap.size))).alloc (.map #[] 0))).drew) O1 HT2 (fun g hg e => by have := own_lt HO hg; omega)
  have d0 : w2.cell? ⟨p, o, none⟩ = some sv := (B2.cell _).trans (by rw [Array.getElem?_setIfInBounds_ne (by omega)]; exact h0)
  have y0 : w2.cell? ⟨w.heap.size, 0, none⟩ = some (.int .u16 a) := X2.cell _
  have y1 : w2.cell? ⟨w.heap.size, 1, none⟩ = some (.int .i64 wy) := X2.cell _
  have y2 : w2.cell? ⟨w.heap.size, 2, none⟩ = some (.int .i64 sq) := X2.cell _
  have y3 : w2.cell? ⟨w.heap.size, 3, none⟩ = some (.string s) := X2.cell _
  have f0 : w2.frozen? ⟨p, o, none⟩ = false := B2.frozen _
  have ag : sv.ownBlock ≠ some p := own_blk_ne O2 B2 (Ne.symm hT)
  have hlt2 := B2.lt
  have ax : w.heap.size < w2.heap.size := X2.lt
  clear hR hr hk hc1 hlt hB hK1
  go_wp2_with fail
  go_region
  clear hu c1 hneq x0 x1 x2 x3 f1 hmm z0 z1 z2 z3
  go_wp2_with fail
  go_region_law (refine step_append_lies _ (by rfl) _ _ _ (by rfl) 0 36 i0 _ 4 40 Try.underlying50 hi0 hz0 hz1 hz2 rfl (by omega) sv xs.length _ (by rfl) ((O2.alloc _).drew) ⟨w2.heap.size, 0, none⟩ 1 1 [.int .u16 a, .int .i64 wy, .int .i64 sq, .string s] (by rfl) (by rfl) (World.news_of_block (cs := #[.int .u16 a, .int .i64 wy, .int .i64 sq, .string s]) (t := 36) (fr := (0, 0)) (heap_alloc_new w2 _)) (by simp [Value.oneCell']) (by omega) (by unfold maxLen; omega) (by omega) (Nat.zero_le _) (w2.heap.size + 1) (by simp) ?_; intro gg cap w3 O3 hg3 hat hlt3; have B3 : Blk w3 p T _ := (B2.alloc _).drew.grown hg3 (Ne.symm ag); have e0 : w3.cell? ⟨p, o, none⟩ = some sv := (B3.cell _).trans (by rw [Array.getElem?_setIfInBounds_ne (by omega)]; exact h0); have e1 : w3.frozen? ⟨p, o, none⟩ = false := B3.frozen _)
  all_goals go_end0
  all_goals exact ⟨rfl, added_of (by decide) hT (((((HT.mono (fun _ _ h => h.elim)).setCell (p := ⟨p, o + 1, none⟩) (fun _ => .inl rfl) _).alloc _).drew).then_ HT2 (fun i hi h => by have := HT.size; omega)) B2 (.inr HT.size) hpb O2 HM2 rfl hg3 O3 hat⟩

theorem info_atom : (Try.prog.info? 34).map (fun i => (i.zero, i.size, i.bytes)) = some (some (.int .u16 0), 1, 2) := by kernel_rfl

set_option maxRecDepth 100000 in
set_option maxHeartbeats 1000000 in
theorem atom_add_old (p o : Nat) (mv : Value) (xs : List Value) (a : Int) (w : World) (hc : w.cell? ⟨p, o + 1, none⟩ = some mv)
    (hs : SetOf w Try.prog 34 mv xs) (hr : (.int .u16 a : Value) ∈ xs) (hk : IsK Try.prog 34 (.int .u16 a)) :
    Calls Try.prog 33 #[.pointer (some ⟨p, o, none⟩), .int .u16 a] w fun e w' => e = .returned (.tuple #[]) ∧ Kept w w' := by
  have hlt := World.block_lt_of_cell? w _ hc
  go_enter Try.func33, Try.ntmps33
  go_wp2_with fail
  refine (atom_has p o mv xs a _ true (hc) (hs) (by simpa using hr) hk).mono ?_
  rintro e w1 ⟨rfl, hK1⟩
  clear hr hk hs
  go_wp2_with fail
  refine bodyPost_ret (results_none rfl _ _ _) rfl ⟨rfl, hK1⟩

set_option maxRecDepth 100000 in
set_option maxHeartbeats 1000000 in
theorem atom_add_some (p o : Nat) (T : TypeId) (cs : Array Value) (sv : Value) (b : Nat) (xs : List Value) (a : Int) (w : World) (hT : T ≠ 34) (hB : Blk w p T cs) (h0 : cs[o]? = some sv) (h1 : cs[o + 1]? = some (.map (some b)))
    (hR : RowIs w Try.prog 34 1 sv (.map (some b)) xs) (hr : (.int .u16 a : Value) ∉ xs) (hk : IsK Try.prog 34 (.int .u16 a)) (hn : xs.length < 3000) :
    Calls Try.prog 33 #[.pointer (some ⟨p, o, none⟩), .int .u16 a] w fun e w' => e = .returned (.tuple #[]) ∧ Added Try.prog 34 1 p T o cs sv (.map (some b)) xs (.int .u16 a) w w' := by
  obtain ⟨i0, hi0, hz0, hz1, hz2⟩ := info_parts info_atom
  have hlt := hB.lt
  have hc1 : w.cell? ⟨p, o + 1, none⟩ = some (.map (some b)) := (hB.cell _).trans h1
  go_enter Try.func33, Try.ntmps33
  go_wp2_with fail
  refine (atom_has p o (.map (some b)) xs a _ false (hc1) (hR.set) (by simpa using hr) hk).mono ?_
  rintro e w1 ⟨rfl, hK1⟩
  have HT : Kept w w1 := hK1
  have HB : Blk w1 p T cs := hB.turned HT (fun h => h)
  have hlt1 := HB.lt
  have HO : w1.ownsRow 0 34 1 sv xs.length (xs.flatMap (·.cells.toList)) := own_turned hR.own HT (fun _ _ h => h)
  have hneq := fun W => run_eql_map_nil (P := Try.prog) W _ _ _ (some b) Try.underlying75
  have c1 : w1.cell? ⟨p, o + 1, none⟩ = some (.map (some b)) := (HB.cell _).trans h1
  have HM : MapAt w1 Try.prog 34 b (xs.map fun x => (x, .agg #[])) := by
    rcases (hR.set.turned HT (fun _ _ h => h)) with ⟨h, _⟩ | ⟨b', h, hm⟩
    · cases h
    · cases h; exact hm
  obtain ⟨w2, hu, HM2, HT2⟩ := HM.put_at key_atom Try.underlying75 hk (by intro p hp e; obtain ⟨x, hx, rfl⟩ := List.mem_map.1 hp; exact hr (e ▸ hx)) (.agg #[])
  have hpb : p ≠ b := HM.blk_ne HB
  have B2 : Blk w2 p T cs := HB.turned HT2 hpb
  have O2 : w2.ownsRow 0 34 1 sv xs.length (xs.flatMap (·.cells.toList)) := own_turned HO HT2 (fun g hg e => HM.own_ne HO (e ▸ hg))
  have d0 : w2.cell? ⟨p, o, none⟩ = some sv := (B2.cell _).trans h0
  have f0 : w2.frozen? ⟨p, o, none⟩ = false := B2.frozen _
  have ag : sv.ownBlock ≠ some p := own_blk_ne O2 B2 (Ne.symm hT)
  have hlt2 := B2.lt
  clear hR hr hk hc1 hlt hB hK1
  go_wp2_with (at_builtin; refine wpList_append_lies _ (by rfl) _ _ _ (by rfl) 0 34 i0 _ 1 2 Try.underlying30 hi0 hz0 hz1 hz2 rfl (by omega) sv xs.length _ (by rfl) (O2.alloc _) ⟨w2.heap.size, 0, none⟩ 1 1 [.int .u16 a] (by rfl) (by rfl) (World.news_of_block (cs := #[.int .u16 a]) (t := 34) (fr := (0, 0)) (heap_alloc_new w2 _)) (by simp [Value.oneCell']) (by omega) (by unfold maxLen; omega) (by omega) (Nat.zero_le _) (w2.heap.size + 1) (by simp) ?_; intro gg cap w3 O3 hg3 hat hlt3; have B3 : Blk w3 p T _ := (B2.alloc _).grown hg3 (Ne.symm ag); have e0 : w3.cell? ⟨p, o, none⟩ = some sv := (B3.cell _).trans h0; have e1 : w3.frozen? ⟨p, o, none⟩ = false := B3.frozen _)
  all_goals go_end0
  all_goals exact ⟨rfl, added_of' (by decide) hT ((HT.mono (fun _ _ h => h.elim)).then_ HT2 (fun _ _ h => .inr (by rw [h]))) (by rw [set_same h1]; exact B2) (.inl rfl) hpb O2 HM2 rfl hg3 O3 hat⟩

set_option maxRecDepth 100000 in
set_option maxHeartbeats 1000000 in
theorem atom_add_nil (p o : Nat) (T : TypeId) (cs : Array Value) (sv : Value) (xs : List Value) (a : Int) (w : World) (hT : T ≠ 34) (hB : Blk w p T cs) (h0 : cs[o]? = some sv) (h1 : cs[o + 1]? = some (.map none))
    (hR : RowIs w Try.prog 34 1 sv (.map none) xs) (hr : (.int .u16 a : Value) ∉ xs) (hk : IsK Try.prog 34 (.int .u16 a)) (hn : xs.length < 3000) :
    Calls Try.prog 33 #[.pointer (some ⟨p, o, none⟩), .int .u16 a] w fun e w' => e = .returned (.tuple #[]) ∧ Added Try.prog 34 1 p T o cs sv (.map none) xs (.int .u16 a) w w' := by
  obtain ⟨i0, hi0, hz0, hz1, hz2⟩ := info_parts info_atom
  have hlt := hB.lt
  have hc1 : w.cell? ⟨p, o + 1, none⟩ = some (.map none) := (hB.cell _).trans h1
  have hmm := @run_makeMap Try.prog
  go_enter Try.func33, Try.ntmps33
  go_wp2_with fail
  refine (atom_has p o (.map none) xs a _ false (hc1) (hR.set) (by simpa using hr) hk).mono ?_
  rintro e w1 ⟨rfl, hK1⟩
  have HT : Kept w w1 := hK1
  have HB : Blk w1 p T cs := hB.turned HT (fun h => h)
  have hlt1 := HB.lt
  have HO : w1.ownsRow 0 34 1 sv xs.length (xs.flatMap (·.cells.toList)) := own_turned hR.own HT (fun _ _ h => h)
  have hneq := fun W => run_eql_map_nil (P := Try.prog) W _ _ _ none Try.underlying75
  have c1 : w1.cell? ⟨p, o + 1, none⟩ = some (.map none) := (HB.cell _).trans h1
  have f1 : w1.frozen? ⟨p, o + 1, none⟩ = false := HB.frozen _
  have hxs : xs = [] := by
    rcases hR.set with ⟨_, h⟩ | ⟨b', h, _⟩
    · exact h
    · cases h
  have hpb : p ≠ w1.heap.size := by omega
  have es : (w1.setCell ⟨p, o + 1, none⟩ (.map (some w1.heap.size))).heap.size = w1.heap.size := by simp [World.setCell]
  have HM : MapAt ((w1.setCell ⟨p, o + 1, none⟩ (.map (some w1.heap.size))).alloc (.map #[] 0)) Try.prog 34 w1.heap.size (xs.map fun x => (x, .agg #[])) := by
    have h := MapAt.new (w1.setCell ⟨p, o + 1, none⟩ (.map (some w1.heap.size))) Try.prog 34
    rw [es] at h
    rw [hxs]
    exact h
  clear es
  have Hxs := Lib.hid hxs
  clear hxs
  obtain ⟨w2, hu, HM2, HT2⟩ := HM.put_at key_atom Try.underlying75 hk (by intro p hp e; obtain ⟨x, hx, rfl⟩ := List.mem_map.1 hp; exact hr (e ▸ hx)) (.agg #[])
  have B1 := (HB.set_ (o + 1) (.map (some w1.heap.size))).alloc (.map #[] 0)
  have B2 : Blk w2 p T (cs.setIfInBounds (o + 1) (.map (some w1.heap.size))) := B1.turned HT2 hpb
  have O1 := own_turned HO (((Turned.refl (fun i => i = p) w1).setCell (p := ⟨p, o + 1, none⟩) (fun _ => rfl) (.map (some w1.heap.size))).alloc (.map #[] 0)) (fun g hg e => own_blk_ne HO HB (Ne.symm hT) (e ▸ hg))
  have O2 : w2.ownsRow 0 34 1 sv xs.length (xs.flatMap (·.cells.toList)) := own_turned (w := (((w1.setCell ⟨p, o + 1, none⟩ (.map (some w1.heap.size))).alloc (.map #[] 0)))) O1 HT2 (fun g hg e => by have := own_lt HO hg; omega)
  have d0 : w2.cell? ⟨p, o, none⟩ = some sv := (B2.cell _).trans (by rw [Array.getElem?_setIfInBounds_ne (by omega)]; exact h0)
  have f0 : w2.frozen? ⟨p, o, none⟩ = false := B2.frozen _
  have ag : sv.ownBlock ≠ some p := own_blk_ne O2 B2 (Ne.symm hT)
  have hlt2 := B2.lt
  clear hR hr hk hc1 hlt hB hK1
  go_wp2_with (at_builtin; refine wpList_append_lies _ (by rfl) _ _ _ (by rfl) 0 34 i0 _ 1 2 Try.underlying30 hi0 hz0 hz1 hz2 rfl (by omega) sv xs.length _ (by rfl) (O2.alloc _) ⟨w2.heap.size, 0, none⟩ 1 1 [.int .u16 a] (by rfl) (by rfl) (World.news_of_block (cs := #[.int .u16 a]) (t := 34) (fr := (0, 0)) (heap_alloc_new w2 _)) (by simp [Value.oneCell']) (by omega) (by unfold maxLen; omega) (by omega) (Nat.zero_le _) (w2.heap.size + 1) (by simp) ?_; intro gg cap w3 O3 hg3 hat hlt3; have B3 : Blk w3 p T _ := (B2.alloc _).grown hg3 (Ne.symm ag); have e0 : w3.cell? ⟨p, o, none⟩ = some sv := (B3.cell _).trans (by rw [Array.getElem?_setIfInBounds_ne (by omega)]; exact h0); have e1 : w3.frozen? ⟨p, o, none⟩ = false := B3.frozen _)
  all_goals go_end0
  all_goals exact ⟨rfl, added_of' (by decide) hT (((((HT.mono (fun _ _ h => h.elim)).setCell (p := ⟨p, o + 1, none⟩) (fun _ => .inl rfl) _).alloc _)).then_ HT2 (fun i hi h => by have := HT.size; omega)) B2 (.inr HT.size) hpb O2 HM2 rfl hg3 O3 hat⟩

end Go.Proofs.Ytkldepflfomegaa
