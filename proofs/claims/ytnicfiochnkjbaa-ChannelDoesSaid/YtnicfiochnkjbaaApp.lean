/- Laying a list of plain things, nil let in, behind an owned row. -/
import Derived.Test.YtnicfiochnkjbaaRow
import Derived.Maps.AppendAt
import Derived.Deep.AppendLies
import Derived.RegionTactic
import Derived.OwnWalk
namespace Go.Proofs.Ytnicfiochnkjbaa
open Go.RowKit

section
variable {α : Type} {V : α → Value} {P : Program}
/-- What is laid, cell by cell. -/
def cellsOf (V : α → Value) (ys : List α) : List Value := (ys.map V).flatMap (·.cells.toList)
theorem cellsOf_one (hV : ∀ x, (V x).cells = #[V x]) (ys : List α) : cellsOf V ys = ys.map V := one_flat V hV ys
theorem cellsOf_append (xs ys : List α) : cellsOf V (xs ++ ys) = cellsOf V xs ++ cellsOf V ys := by simp [cellsOf]
theorem cellsOf_length {size : Nat} (hV : ∀ x, (V x).cells.size = size) : ∀ ys : List α, (cellsOf V ys).length = ys.length * size
  | [] => by simp [cellsOf]
  | y :: ys => by
    have := cellsOf_length hV ys
    simp only [cellsOf, List.map_cons, List.flatMap_cons, List.length_append, List.length_cons, Array.length_toList, hV] at *
    rw [Nat.add_mul]
    omega
theorem cellsOf_mem {Q : Value → Prop} (hV : ∀ x, ∀ u ∈ (V x).cells.toList, Q u) (ys : List α) : ∀ u ∈ cellsOf V ys, Q u := fun u hu => by
  unfold cellsOf at hu
  obtain ⟨v, hv, hu⟩ := List.mem_flatMap.1 hu
  obtain ⟨x, _, rfl⟩ := List.mem_map.1 hv
  exact hV x u hu
theorem ReadsT.cells {w : World} {B size : Nat} {A : Option Addr} {ys : List α} (hV : ∀ x, (V x).cells.size = size) (hpos : 0 < size) (h : ReadsT V w B size A ys) (h0 : 0 < ys.length) :
    ∃ b o, A = some ⟨b, o, none⟩ ∧ b < B ∧ ∀ j u, (cellsOf V ys)[j]? = some u → w.cell? ⟨b, o + j, none⟩ = some u := by
  obtain ⟨b, o, hA, hb, _⟩ := h 0 h0
  refine ⟨b, o, hA, hb, fun j u hu => ?_⟩
  have hjl : j < ys.length * size := by
    rw [← cellsOf_length hV]
    exact (List.getElem?_eq_some_iff.1 hu).1
  have hq : j / size < ys.length := Nat.div_lt_of_lt_mul (by rw [Nat.mul_comm]; exact hjl)
  have hr : j % size < size := Nat.mod_lt _ hpos
  have he : j / size * size + j % size = j := by rw [Nat.mul_comm]; exact Nat.div_add_mod j size
  obtain ⟨b', o', hA', _, hc⟩ := h (j / size) hq
  rw [hA] at hA'
  cases hA'
  have h1 := hc (j % size) hr
  rw [Nat.add_assoc, he] at h1
  rw [h1, ← hu]
  unfold cellsOf
  have h2 := flat_at (fun v : Value => v.cells.toList) size (ys.map V) (fun x hx => by
    obtain ⟨y, _, rfl⟩ := List.mem_map.1 hx
    simpa using hV y) (j / size) (j % size) hr
  rw [he] at h2
  rw [h2, List.getElem?_map, List.getElem?_eq_getElem hq]
  simp

theorem run_append_reads (w : World) (base : Nat) (t ty e : TypeId) (i : TypeInfo) (z : Value) (size bytes : Nat) (ht : P.underlying t = some (.slice e)) (hi : P.info? e = some i) (hz : i.zero = some z)
    (hsize : i.size = size) (hby : i.bytes = bytes) (hzs : z.cells.size = size) (hpos : 0 < size) (hV : ∀ x, (V x).cells.size = size) (hV1 : ∀ x, ∀ u ∈ (V x).cells.toList, u.oneCell' = true)
    (v : Value) (n : Nat) (xs : List Value) (hown : w.ownsRow base e size v n xs) (B : Nat) (A : Option Addr) (c : Nat) (ys : List α) (hr : ReadsT V w B size A ys)
    (h63 : n + ys.length ≤ maxLen) (hbytes : (n + ys.length) * bytes ≤ 140737488355328) (hbase : base ≤ w.heap.size) :
    ∃ v' w', (Builtin.append_ #[t, t] ty #[v, .slice A ys.length c]).run P w = .ok v' w' ∧ w'.ownsRow base e size v' (n + ys.length) (xs ++ cellsOf V ys) ∧ w.grownBy w' v.ownBlock := by
  have one := cellsOf_mem (Q := fun u => u.oneCell' = true) hV1 ys
  have len := cellsOf_length hV ys
  rcases Nat.eq_zero_or_pos ys.length with h0 | h0
  · obtain rfl : ys = [] := List.length_eq_zero_iff.1 h0
    rcases A with _ | ad
    · refine ⟨v, w, ?_, by simpa [cellsOf] using hown, World.grownBy.refl w _⟩
      rcases hown.2 with ⟨rfl, rfl⟩ | ⟨g, cap, cur, rfl, _, _, hnc, _⟩
      · simp [Builtin.append_, run_underlying ht, sizeOf, typeInfo, hi, Builtin.lenOf, Builtin.firstCells]
      · simp [Builtin.append_, run_underlying ht, sizeOf, typeInfo, hi, Builtin.lenOf, Builtin.firstCells, hnc, storeCells]
    · obtain ⟨v', w', h1, h2, h3, _⟩ := run_append_own_at (P := P) w base t ty e i z size bytes ht hi hz hsize hby hzs hpos v n xs hown ad 0 c [] (by simp) (by simp) (by simp) h63 hbytes hbase
      exact ⟨v', w', h1, h2, h3⟩
  · obtain ⟨b, o, rfl, _, hc⟩ := hr.cells hV hpos h0
    obtain ⟨v', w', h1, h2, h3, _⟩ := run_append_own_at (P := P) w base t ty e i z size bytes ht hi hz hsize hby hzs hpos v n xs hown ⟨b, o, none⟩ ys.length c (cellsOf V ys) len (fun j u hu => by rw [Addr.add_lit]; exact hc j u hu) one h63 hbytes hbase
    exact ⟨v', w', h1, h2, h3⟩

theorem wp_append_reads {w : World} {o : Oper} {a : Act} {K : Act → World → Prop} {Q : Exit → Act → World → Prop} (s x : Operand) (t : TypeId)
    (ho : o.op = .call { callee := .builtin .append, args := #[s, x], argTypes := #[t, t] })
    (base : Nat) (e : TypeId) (i : TypeInfo) (z : Value) (size bytes : Nat) (ht : P.underlying t = some (.slice e)) (hi : P.info? e = some i) (hz : i.zero = some z)
    (hsize : i.size = size) (hby : i.bytes = bytes) (hzs : z.cells.size = size) (hpos : 0 < size) (hV : ∀ x, (V x).cells.size = size) (hV1 : ∀ x, ∀ u ∈ (V x).cells.toList, u.oneCell' = true)
    (v : Value) (n : Nat) (xs : List Value) (hs : a.eval s = v) (hown : w.ownsRow base e size v n xs) (B : Nat) (A : Option Addr) (m c : Nat) (ys : List α) (hx : a.eval x = .slice A m c) (hm : ys.length = m) (hr : ReadsT V w B size A ys)
    (h63 : n + m ≤ maxLen) (hbytes : (n + m) * bytes ≤ 140737488355328) (hbase : base ≤ w.heap.size)
    (h : ∀ v' w', w'.ownsRow base e size v' (n + m) (xs ++ cellsOf V ys) → w.grownBy w' v.ownBlock → K (a.put o.dst v') w') : o.wp P a w K Q := by
  subst hm
  obtain ⟨v', w', hrun, h2, h3⟩ := run_append_reads (P := P) w base t o.type e i z size bytes ht hi hz hsize hby hzs hpos hV hV1 v n xs hown B A c ys hr h63 hbytes hbase
  unfold Oper.wp execOp
  simp only [ho, resolve, invoke, builtin, Sem.run_bind, Sem.run_pure, Result.andThen_ok, List.map_toArray, List.map_cons, List.map_nil, hs, hx, hrun]
  exact h v' w' h2 h3

theorem wpList_append_reads {w : World} {ops : Array Oper} {rest : List Oper} {o : Oper} {a : Act} {Q : Exit → Act → World → Prop} (hgd : o.guard = none) (s x : Operand) (t : TypeId)
    (ho : o.op = .call { callee := .builtin .append, args := #[s, x], argTypes := #[t, t] })
    (base : Nat) (e : TypeId) (i : TypeInfo) (z : Value) (size bytes : Nat) (ht : P.underlying t = some (.slice e)) (hi : P.info? e = some i) (hz : i.zero = some z)
    (hsize : i.size = size) (hby : i.bytes = bytes) (hzs : z.cells.size = size) (hpos : 0 < size) (hV : ∀ x, (V x).cells.size = size) (hV1 : ∀ x, ∀ u ∈ (V x).cells.toList, u.oneCell' = true)
    (v : Value) (n : Nat) (xs : List Value) (hs : a.eval s = v) (hown : w.ownsRow base e size v n xs) (B : Nat) (A : Option Addr) (m c : Nat) (ys : List α) (hx : a.eval x = .slice A m c) (hm : ys.length = m) (hr : ReadsT V w B size A ys)
    (h63 : n + m ≤ maxLen) (hbytes : (n + m) * bytes ≤ 140737488355328) (hbase : base ≤ w.heap.size)
    (h : ∀ v' w', w'.ownsRow base e size v' (n + m) (xs ++ cellsOf V ys) → w.grownBy w' v.ownBlock → wpList P ops Q rest (a.put o.dst v') w') : wpList P ops Q (o :: rest) a w :=
  wpList_plain hgd fun _ hK => wp_append_reads s x t ho base e i z size bytes ht hi hz hsize hby hzs hpos hV hV1 v n xs hs hown B A m c ys hx hm hr h63 hbytes hbase fun v' w' h2 h3 => hK _ _ (h v' w' h2 h3)

theorem step_append_reads {w : World} {ops : Array Oper} {o : Oper} {a : Act} {K : Act → World → Prop} {Q : Exit → Act → World → Prop} {E : Prop} (hgd : o.guard = none) (s x : Operand) (t : TypeId)
    (ho : o.op = .call { callee := .builtin .append, args := #[s, x], argTypes := #[t, t] })
    (base : Nat) (e : TypeId) (i : TypeInfo) (z : Value) (size bytes : Nat) (ht : P.underlying t = some (.slice e)) (hi : P.info? e = some i) (hz : i.zero = some z)
    (hsize : i.size = size) (hby : i.bytes = bytes) (hzs : z.cells.size = size) (hpos : 0 < size) (hV : ∀ x, (V x).cells.size = size) (hV1 : ∀ x, ∀ u ∈ (V x).cells.toList, u.oneCell' = true)
    (v : Value) (n : Nat) (xs : List Value) (hs : a.eval s = v) (hown : w.ownsRow base e size v n xs) (B : Nat) (A : Option Addr) (m c : Nat) (ys : List α) (hx : a.eval x = .slice A m c) (hm : ys.length = m) (hr : ReadsT V w B size A ys)
    (h63 : n + m ≤ maxLen) (hbytes : (n + m) * bytes ≤ 140737488355328) (hbase : base ≤ w.heap.size)
    (h : ∀ v' w', w'.ownsRow base e size v' (n + m) (xs ++ cellsOf V ys) → w.grownBy w' v.ownBlock → K (a.put o.dst v') w') :
    if Region.wanted o (yielded ops a.tmps) = true then Oper.wp P o a w K Q else E := by
  have hw : Region.wanted o (yielded ops a.tmps) = true := by simp [Region.wanted, hgd]
  rw [if_pos hw]
  exact wp_append_reads s x t ho base e i z size bytes ht hi hz hsize hby hzs hpos hV hV1 v n xs hs hown B A m c ys hx hm hr h63 hbytes hbase h
/-! ### a part of a list that is read -/
theorem sliced_reads {w : World} {B size n c : Nat} {A : Option Addr} {xs : List α} (h : ReadsT V w B size A xs) (hn : xs.length = n) (hc : n ≤ c) (l r : Nat) (hr : r ≤ n) :
    ∃ A', sliced A l r c size = .slice A' (r - l) (c - l) ∧ ReadsT V w B size A' ((xs.take r).drop l) := by
  refine ⟨if c = l then A else A.map (·.add (l * size)), rfl, fun j hj => ?_⟩
  simp only [List.length_drop, List.length_take] at hj
  obtain ⟨b, o, rfl, hb, hcell⟩ := h (l + j) (by omega)
  rw [if_neg (by omega)]
  refine ⟨b, o + l * size, by simp [Addr.add_lit], hb, fun i hi => ?_⟩
  have := hcell i hi
  rw [Nat.add_mul, ← Nat.add_assoc] at this
  rw [this]
  simp
theorem slice_hi {w : World} {B size n c : Nat} {A : Option Addr} {xs : List α} {t e : TypeId} {i : TypeInfo} (ht : P.underlying t = some (.slice e)) (hi : P.info? e = some i) (hsize : i.size = size) (h : ReadsT V w B size A xs) (hn : xs.length = n) (hc : n ≤ c) (r : Nat) (hr : r ≤ n) :
    ∃ A', (∀ W, (Instr.slice t (.slice A n c) none (some (.int .i64 (r : Int))) none).run P W = .ok (.slice A' r c) W) ∧ ReadsT V w B size A' (xs.take r) := by
  obtain ⟨A', h1, h2⟩ := sliced_reads h hn hc 0 r hr
  refine ⟨A', fun W => ?_, by simpa using h2⟩
  have he : P.elem t = e := by simp [Program.elem, ht]
  rw [run_slice_h W t A n c (by rw [he]; exact ht) .i64 (r : Int) (by omega) (by omega), he]
  simpa [sizeOf, typeInfo, hi, hsize] using h1
theorem slice_lo {w : World} {B size n c : Nat} {A : Option Addr} {xs : List α} {t e : TypeId} {i : TypeInfo} (ht : P.underlying t = some (.slice e)) (hi : P.info? e = some i) (hsize : i.size = size) (h : ReadsT V w B size A xs) (hn : xs.length = n) (hc : n ≤ c) (x : Int) (l : Nat) (hx : x = (l : Int)) (hl : l ≤ n) :
    ∃ A', (∀ W, (Instr.slice t (.slice A n c) (some (.int .i64 x)) none none).run P W = .ok (.slice A' (n - l) (c - l)) W) ∧ ReadsT V w B size A' (xs.drop l) := by
  subst hx
  obtain ⟨A', h1, h2⟩ := sliced_reads h hn hc l n (Nat.le_refl _)
  refine ⟨A', fun W => ?_, by rw [← hn, List.take_length] at h2; exact h2⟩
  have he : P.elem t = e := by simp [Program.elem, ht]
  rw [run_slice_l W t A n c (by rw [he]; exact ht) .i64 (l : Int) (by omega) (by omega), he]
  simpa [sizeOf, typeInfo, hi, hsize] using h1
end
end Go.Proofs.Ytnicfiochnkjbaa
