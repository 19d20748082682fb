/- The contracts of row.add and row.put, whatever the row holds: one form for an element that is there, that is new, that finds no room. -/
import Derived.Test.YtkldepflfomegaaAdd
namespace Go.Proofs.Ytkldepflfomegaa
open Go.RowKit
open Go.Maps (Keyed)

/-- What has become of a row's two cells, at o and o + 1 of block p: it holds xs' now. -/
def Next_ (P : Program) (k size p t o : Nat) (cs : Array Value) (sv mv : Value) (xs' : List Value) (w w' : World) : Prop :=
  ∃ sv' mv', Blk w' p t ((cs.setIfInBounds o sv').setIfInBounds (o + 1) mv') ∧ RowIs w' P k size sv' mv' xs' ∧ Turned (fun i => i = p ∨ sv.ownBlock = some i ∨ mv = .map (some i)) w w' ∧
    (∀ g, sv'.ownBlock = some g → sv.ownBlock = some g ∨ w.heap.size ≤ g) ∧ (∀ b, mv' = .map (some b) → mv = .map (some b) ∨ w.heap.size ≤ b)

theorem next_kept {P : Program} {k size p t o : Nat} {cs : Array Value} {sv mv : Value} {xs : List Value} {w w' : World} (hB : Blk w p t cs) (h0 : cs[o]? = some sv) (h1 : cs[o + 1]? = some mv) (hR : RowIs w P k size sv mv xs) (hK : Kept w w') :
    Next_ P k size p t o cs sv mv xs w w' := by
  refine ⟨sv, mv, ?_, hR.turned hK (fun _ _ h => h) (fun _ _ h => h), hK.mono (fun _ _ h => h.elim), fun _ h => .inl h, fun _ h => .inl h⟩
  rw [set_same h0, set_same h1]
  exact hB.turned hK (fun h => h)

/-- The same of an earlier world, whence nothing turned. -/
theorem next_after {P : Program} {k size p t o : Nat} {cs : Array Value} {sv mv : Value} {xs : List Value} {w w1 w' : World} (hK : Kept w w1) (h : Next_ P k size p t o cs sv mv xs w1 w') : Next_ P k size p t o cs sv mv xs w w' := by
  obtain ⟨sv', mv', a, b, c, d, e⟩ := h
  exact ⟨sv', mv', a, b, (hK.mono (fun _ _ h => h.elim)).then_ c (fun _ _ h => h), fun g h => (d g h).imp id (fun h => Nat.le_trans hK.size h), fun g h => (e g h).imp id (fun h => Nat.le_trans hK.size h)⟩

/-- The code of a put, and what the row holds behind it. -/
def putCode (r : Bool) (n : Nat) : Int := if r then 0 else if n < 2000 then 0 else 3
def putList (r : Bool) (xs : List Value) (x : Value) : List Value := if r then xs else if xs.length < 2000 then xs ++ [x] else xs

theorem sig_add (p o : Nat) (T : TypeId) (cs : Array Value) (sv mv : Value) (xs : List Value) (a : Int) (s : ByteArray) (w : World) (r : Bool) (hT : T ≠ 83) (hB : Blk w p T cs) (h0 : cs[o]? = some sv) (h1 : cs[o + 1]? = some mv)
    (hR : RowIs w Try.prog 83 2 sv mv xs) (hr : r = true ↔ (.agg #[.int .u16 a, .string s] : Value) ∈ xs) (hk : IsK Try.prog 83 (.agg #[.int .u16 a, .string s])) (hn : xs.length < 3000) :
    Calls Try.prog 37 #[.pointer (some ⟨p, o, none⟩), .agg #[.int .u16 a, .string s]] w fun e w' => e = .returned (.tuple #[]) ∧ Next_ Try.prog 83 2 p T o cs sv mv (if r then xs else xs ++ [.agg #[.int .u16 a, .string s]]) w w' := by
  cases r with
  | true => exact (sig_add_old p o mv xs a s w ((hB.cell _).trans h1) hR.set (hr.1 rfl) hk).mono fun e w' ⟨he, hK⟩ => ⟨he, next_kept hB h0 h1 hR hK⟩
  | false =>
    have hr' : (.agg #[.int .u16 a, .string s] : Value) ∉ xs := fun h => absurd (hr.2 h) (by simp)
    rcases hR.set with ⟨rfl, _⟩ | ⟨b, rfl, _⟩
    · exact sig_add_nil p o T cs sv xs a s w hT hB h0 h1 hR hr' hk hn
    · exact sig_add_some p o T cs sv b xs a s w hT hB h0 h1 hR hr' hk hn

set_option maxRecDepth 100000 in
set_option maxHeartbeats 1000000 in
theorem sig_put (p o : Nat) (T : TypeId) (cs : Array Value) (sv mv : Value) (xs : List Value) (a : Int) (s : ByteArray) (w : World) (r : Bool) (hT : T ≠ 83) (hB : Blk w p T cs) (h0 : cs[o]? = some sv) (h1 : cs[o + 1]? = some mv)
    (hR : RowIs w Try.prog 83 2 sv mv xs) (hr : r = true ↔ (.agg #[.int .u16 a, .string s] : Value) ∈ xs) (hk : IsK Try.prog 83 (.agg #[.int .u16 a, .string s])) (hn : xs.length ≤ 2000) :
    Calls Try.prog 31 #[.pointer (some ⟨p, o, none⟩), .agg #[.int .u16 a, .string s], .int .i64 2000] w fun e w' => e = .returned (.int .i64 (putCode r xs.length)) ∧ Next_ Try.prog 83 2 p T o cs sv mv (putList r xs (.agg #[.int .u16 a, .string s])) w w' := by
  obtain ⟨A, c, hsv⟩ := own_slice hR.own
  subst hsv
  have hlt := hB.lt
  have hc0 : w.cell? ⟨p, o, none⟩ = some (.slice A xs.length c) := (hB.cell _).trans h0
  have hc1 : w.cell? ⟨p, o + 1, none⟩ = some mv := (hB.cell _).trans h1
  obtain ⟨n, hnn⟩ : ∃ n, n = xs.length := ⟨_, rfl⟩
  have Hr := Lib.hid hr
  clear hr
  rcases Bool.eq_false_or_eq_true r with rfl | rfl
  · go_enter Try.func31, Try.ntmps31
    go_wp2_with fail
    refine (sig_has p o mv xs a s _ true (by rw [World.cell?_alloc_lt _ _ _ hlt]; exact hc1) (hR.set.alloc _) (by simpa using Hr.out) hk).mono ?_
    rintro e w1 ⟨rfl, hK1⟩
    have HX : Blk w1 w.heap.size 83 #[.int .u16 a, .string s] := (Blk.new w _ _).turned hK1 (fun h => h)
    have x0 : w1.cell? ⟨w.heap.size, 0, none⟩ = some (.int .u16 a) := HX.cell _
    have x1 : w1.cell? ⟨w.heap.size, 1, none⟩ = some (.string s) := HX.cell _
    have HT : Kept w w1 := ((Turned.refl _ w).alloc _).then_ hK1 (fun _ _ h => h)
    have C := sig_add p o T cs _ mv xs a s w1 true hT (hB.turned HT (fun h => h)) h0 h1 (hR.turned HT (fun _ _ h => h) (fun _ _ h => h)) (by simpa using Hr.out) hk (by omega)
    have HC := Lib.hid C
    clear C Hr hk hc0 hc1 hR hn
    go_wp2_with fail
    refine HC.out.mono ?_
    rintro e w2 ⟨rfl, hN⟩
    have HN := Lib.hid (next_after HT hN)
    clear hN HC
    go_wp2_with fail
    go_ret
    exact ⟨rfl, by simpa [putList] using HN.out⟩
  · by_cases hlen : xs.length < 2000
    · have hd : decide ((2000 : Int) ≤ (xs.length : Int)) = false := by simp; omega
      go_enter Try.func31, Try.ntmps31
      go_wp2_with fail
      refine (sig_has p o mv xs a s _ false (by rw [World.cell?_alloc_lt _ _ _ hlt]; exact hc1) (hR.set.alloc _) (by simpa using Hr.out) hk).mono ?_
      rintro e w1 ⟨rfl, hK1⟩
      have HX : Blk w1 w.heap.size 83 #[.int .u16 a, .string s] := (Blk.new w _ _).turned hK1 (fun h => h)
      have x0 : w1.cell? ⟨w.heap.size, 0, none⟩ = some (.int .u16 a) := HX.cell _
      have x1 : w1.cell? ⟨w.heap.size, 1, none⟩ = some (.string s) := HX.cell _
      have HT : Kept w w1 := ((Turned.refl _ w).alloc _).then_ hK1 (fun _ _ h => h)
      have hc2 : w1.cell? ⟨p, o, none⟩ = some (.slice A xs.length c) := ((hB.turned HT (fun h => h)).cell _).trans h0
      have C := sig_add p o T cs _ mv xs a s w1 false hT (hB.turned HT (fun h => h)) h0 h1 (hR.turned HT (fun _ _ h => h) (fun _ _ h => h)) (by simpa using Hr.out) hk (by omega)
      have HC := Lib.hid C
      clear C Hr hk hc0 hc1 hR
      go_wp2_with fail
      refine HC.out.mono ?_
      rintro e w2 ⟨rfl, hN⟩
      have HN := Lib.hid (next_after HT hN)
      clear hN HC
      go_wp2_with fail
      go_ret
      have e1 : putCode false xs.length = 0 := by simp [putCode, hlen]
      rw [e1]
      exact ⟨rfl, by simpa [putList, hlen] using HN.out⟩
    · have hd : decide ((2000 : Int) ≤ (xs.length : Int)) = true := by simp; omega
      go_enter Try.func31, Try.ntmps31
      go_wp2_with fail
      refine (sig_has p o mv xs a s _ false (by rw [World.cell?_alloc_lt _ _ _ hlt]; exact hc1) (hR.set.alloc _) (by simpa using Hr.out) hk).mono ?_
      rintro e w1 ⟨rfl, hK1⟩
      have HT : Kept w w1 := ((Turned.refl _ w).alloc _).then_ hK1 (fun _ _ h => h)
      have hc2 : w1.cell? ⟨p, o, none⟩ = some (.slice A xs.length c) := ((hB.turned HT (fun h => h)).cell _).trans h0
      have HN := Lib.hid (next_kept hB h0 h1 hR HT)
      clear Hr hk hc0 hc1 hR
      go_wp2_with fail
      go_ret
      have e1 : putCode false xs.length = 3 := by simp [putCode, hlen]
      rw [e1]
      exact ⟨rfl, by simpa [putList, hlen] using HN.out⟩

theorem made_add (p o : Nat) (T : TypeId) (cs : Array Value) (sv mv : Value) (xs : List Value) (a wy sq : Int) (s : ByteArray) (y : Int) (w : World) (r : Bool) (hT : T ≠ 88) (hB : Blk w p T cs) (h0 : cs[o]? = some sv) (h1 : cs[o + 1]? = some mv)
    (hR : RowIs w Try.prog 88 5 sv mv xs) (hr : r = true ↔ (.agg #[.int .u16 a, .int .i64 wy, .int .i64 sq, .string s, .int .i64 y] : Value) ∈ xs) (hk : IsK Try.prog 88 (.agg #[.int .u16 a, .int .i64 wy, .int .i64 sq, .string s, .int .i64 y])) (hn : xs.length < 3000) :
    Calls Try.prog 39 #[.pointer (some ⟨p, o, none⟩), .agg #[.int .u16 a, .int .i64 wy, .int .i64 sq, .string s, .int .i64 y]] w fun e w' => e = .returned (.tuple #[]) ∧ Next_ Try.prog 88 5 p T o cs sv mv (if r then xs else xs ++ [.agg #[.int .u16 a, .int .i64 wy, .int .i64 sq, .string s, .int .i64 y]]) w w' := by
  cases r with
  | true => exact (made_add_old p o mv xs a wy sq s y w ((hB.cell _).trans h1) hR.set (hr.1 rfl) hk).mono fun e w' ⟨he, hK⟩ => ⟨he, next_kept hB h0 h1 hR hK⟩
  | false =>
    have hr' : (.agg #[.int .u16 a, .int .i64 wy, .int .i64 sq, .string s, .int .i64 y] : Value) ∉ xs := fun h => absurd (hr.2 h) (by simp)
    rcases hR.set with ⟨rfl, _⟩ | ⟨b, rfl, _⟩
    · exact made_add_nil p o T cs sv xs a wy sq s y w hT hB h0 h1 hR hr' hk hn
    · exact made_add_some p o T cs sv b xs a wy sq s y w hT hB h0 h1 hR hr' hk hn

set_option maxRecDepth 100000 in
set_option maxHeartbeats 1000000 in
theorem made_put (p o : Nat) (T : TypeId) (cs : Array Value) (sv mv : Value) (xs : List Value) (a wy sq : Int) (s : ByteArray) (y : Int) (w : World) (r : Bool) (hT : T ≠ 88) (hB : Blk w p T cs) (h0 : cs[o]? = some sv) (h1 : cs[o + 1]? = some mv)
    (hR : RowIs w Try.prog 88 5 sv mv xs) (hr : r = true ↔ (.agg #[.int .u16 a, .int .i64 wy, .int .i64 sq, .string s, .int .i64 y] : Value) ∈ xs) (hk : IsK Try.prog 88 (.agg #[.int .u16 a, .int .i64 wy, .int .i64 sq, .string s, .int .i64 y])) (hn : xs.length ≤ 2000) :
    Calls Try.prog 32 #[.pointer (some ⟨p, o, none⟩), .agg #[.int .u16 a, .int .i64 wy, .int .i64 sq, .string s, .int .i64 y], .int .i64 2000] w fun e w' => e = .returned (.int .i64 (putCode r xs.length)) ∧ Next_ Try.prog 88 5 p T o cs sv mv (putList r xs (.agg #[.int .u16 a, .int .i64 wy, .int .i64 sq, .string s, .int .i64 y])) w w' := by
  obtain ⟨A, c, hsv⟩ := own_slice hR.own
  subst hsv
  have hlt := hB.lt
  have hc0 : w.cell? ⟨p, o, none⟩ = some (.slice A xs.length c) := (hB.cell _).trans h0
  have hc1 : w.cell? ⟨p, o + 1, none⟩ = some mv := (hB.cell _).trans h1
  obtain ⟨n, hnn⟩ : ∃ n, n = xs.length := ⟨_, rfl⟩
  have Hr := Lib.hid hr
  clear hr
  rcases Bool.eq_false_or_eq_true r with rfl | rfl
  · go_enter Try.func32, Try.ntmps32
    go_wp2_with fail
    refine (made_has p o mv xs a wy sq s y _ true (by rw [World.cell?_alloc_lt _ _ _ hlt]; exact hc1) (hR.set.alloc _) (by simpa using Hr.out) hk).mono ?_
    rintro e w1 ⟨rfl, hK1⟩
    have HX : Blk w1 w.heap.size 88 #[.int .u16 a, .int .i64 wy, .int .i64 sq, .string s, .int .i64 y] := (Blk.new w _ _).turned hK1 (fun h => h)
    have x0 : w1.cell? ⟨w.heap.size, 0, none⟩ = some (.int .u16 a) := HX.cell _
    have x1 : w1.cell? ⟨w.heap.size, 1, none⟩ = some (.int .i64 wy) := HX.cell _
    have x2 : w1.cell? ⟨w.heap.size, 2, none⟩ = some (.int .i64 sq) := HX.cell _
    have x3 : w1.cell? ⟨w.heap.size, 3, none⟩ = some (.string s) := HX.cell _
    have x4 : w1.cell? ⟨w.heap.size, 4, none⟩ = some (.int .i64 y) := HX.cell _
    have HT : Kept w w1 := ((Turned.refl _ w).alloc _).then_ hK1 (fun _ _ h => h)
    have C := made_add p o T cs _ mv xs a wy sq s y w1 true hT (hB.turned HT (fun h => h)) h0 h1 (hR.turned HT (fun _ _ h => h) (fun _ _ h => h)) (by simpa using Hr.out) hk (by omega)
    have HC := Lib.hid C
    clear C Hr hk hc0 hc1 hR hn
    go_wp2_with fail
    refine HC.out.mono ?_
    rintro e w2 ⟨rfl, hN⟩
    have HN := Lib.hid (next_after HT hN)
    clear hN HC
    go_wp2_with fail
    go_ret
    exact ⟨rfl, by simpa [putList] using HN.out⟩
  · by_cases hlen : xs.length < 2000
    · have hd : decide ((2000 : Int) ≤ (xs.length : Int)) = false := by simp; omega
      go_enter Try.func32, Try.ntmps32
      go_wp2_with fail
      refine (made_has p o mv xs a wy sq s y _ false (by rw [World.cell?_alloc_lt _ _ _ hlt]; exact hc1) (hR.set.alloc _) (by simpa using Hr.out) hk).mono ?_
      rintro e w1 ⟨rfl, hK1⟩
      have HX : Blk w1 w.heap.size 88 #[.int .u16 a, .int .i64 wy, .int .i64 sq, .string s, .int .i64 y] := (Blk.new w _ _).turned hK1 (fun h => h)
      have x0 : w1.cell? ⟨w.heap.size, 0, none⟩ = some (.int .u16 a) := HX.cell _
      have x1 : w1.cell? ⟨w.heap.size, 1, none⟩ = some (.int .i64 wy) := HX.cell _
      have x2 : w1.cell? ⟨w.heap.size, 2, none⟩ = some (.int .i64 sq) := HX.cell _
      have x3 : w1.cell? ⟨w.heap.size, 3, none⟩ = some (.string s) := HX.cell _
      have x4 : w1.cell? ⟨w.heap.size, 4, none⟩ = some (.int .i64 y) := HX.cell _
      have HT : Kept w w1 := ((Turned.refl _ w).alloc _).then_ hK1 (fun _ _ h => h)
      have hc2 : w1.cell? ⟨p, o, none⟩ = some (.slice A xs.length c) := ((hB.turned HT (fun h => h)).cell _).trans h0
      have C := made_add p o T cs _ mv xs a wy sq s y w1 false hT (hB.turned HT (fun h => h)) h0 h1 (hR.turned HT (fun _ _ h => h) (fun _ _ h => h)) (by simpa using Hr.out) hk (by omega)
      have HC := Lib.hid C
      clear C Hr hk hc0 hc1 hR
      go_wp2_with fail
      refine HC.out.mono ?_
      rintro e w2 ⟨rfl, hN⟩
      have HN := Lib.hid (next_after HT hN)
      clear hN HC
      go_wp2_with fail
      go_ret
      have e1 : putCode false xs.length = 0 := by simp [putCode, hlen]
      rw [e1]
      exact ⟨rfl, by simpa [putList, hlen] using HN.out⟩
    · have hd : decide ((2000 : Int) ≤ (xs.length : Int)) = true := by simp; omega
      go_enter Try.func32, Try.ntmps32
      go_wp2_with fail
      refine (made_has p o mv xs a wy sq s y _ false (by rw [World.cell?_alloc_lt _ _ _ hlt]; exact hc1) (hR.set.alloc _) (by simpa using Hr.out) hk).mono ?_
      rintro e w1 ⟨rfl, hK1⟩
      have HT : Kept w w1 := ((Turned.refl _ w).alloc _).then_ hK1 (fun _ _ h => h)
      have hc2 : w1.cell? ⟨p, o, none⟩ = some (.slice A xs.length c) := ((hB.turned HT (fun h => h)).cell _).trans h0
      have HN := Lib.hid (next_kept hB h0 h1 hR HT)
      clear Hr hk hc0 hc1 hR
      go_wp2_with fail
      go_ret
      have e1 : putCode false xs.length = 3 := by simp [putCode, hlen]
      rw [e1]
      exact ⟨rfl, by simpa [putList, hlen] using HN.out⟩

theorem mac_add (p o : Nat) (T : TypeId) (cs : Array Value) (sv mv : Value) (xs : List Value) (a wy sq : Int) (s : ByteArray) (w : World) (r : Bool) (hT : T ≠ 36) (hB : Blk w p T cs) (h0 : cs[o]? = some sv) (h1 : cs[o + 1]? = some mv)
    (hR : RowIs w Try.prog 36 4 sv mv xs) (hr : r = true ↔ (.agg #[.int .u16 a, .int .i64 wy, .int .i64 sq, .string s] : Value) ∈ xs) (hk : IsK Try.prog 36 (.agg #[.int .u16 a, .int .i64 wy, .int .i64 sq, .string s])) (hn : xs.length < 3000) :
    Calls Try.prog 36 #[.pointer (some ⟨p, o, none⟩), .agg #[.int .u16 a, .int .i64 wy, .int .i64 sq, .string s]] w fun e w' => e = .returned (.tuple #[]) ∧ Next_ Try.prog 36 4 p T o cs sv mv (if r then xs else xs ++ [.agg #[.int .u16 a, .int .i64 wy, .int .i64 sq, .string s]]) w w' := by
  cases r with
  | true => exact (mac_add_old p o mv xs a wy sq s w ((hB.cell _).trans h1) hR.set (hr.1 rfl) hk).mono fun e w' ⟨he, hK⟩ => ⟨he, next_kept hB h0 h1 hR hK⟩
  | false =>
    have hr' : (.agg #[.int .u16 a, .int .i64 wy, .int .i64 sq, .string s] : Value) ∉ xs := fun h => absurd (hr.2 h) (by simp)
    rcases hR.set with ⟨rfl, _⟩ | ⟨b, rfl, _⟩
    · exact mac_add_nil p o T cs sv xs a wy sq s w hT hB h0 h1 hR hr' hk hn
    · exact mac_add_some p o T cs sv b xs a wy sq s w hT hB h0 h1 hR hr' hk hn

theorem atom_add (p o : Nat) (T : TypeId) (cs : Array Value) (sv mv : Value) (xs : List Value) (a : Int) (w : World) (r : Bool) (hT : T ≠ 34) (hB : Blk w p T cs) (h0 : cs[o]? = some sv) (h1 : cs[o + 1]? = some mv)
    (hR : RowIs w Try.prog 34 1 sv mv xs) (hr : r = true ↔ (.int .u16 a : Value) ∈ xs) (hk : IsK Try.prog 34 (.int .u16 a)) (hn : xs.length < 3000) :
    Calls Try.prog 33 #[.pointer (some ⟨p, o, none⟩), .int .u16 a] w fun e w' => e = .returned (.tuple #[]) ∧ Next_ Try.prog 34 1 p T o cs sv mv (if r then xs else xs ++ [.int .u16 a]) w w' := by
  cases r with
  | true => exact (atom_add_old p o mv xs a w ((hB.cell _).trans h1) hR.set (hr.1 rfl) hk).mono fun e w' ⟨he, hK⟩ => ⟨he, next_kept hB h0 h1 hR hK⟩
  | false =>
    have hr' : (.int .u16 a : Value) ∉ xs := fun h => absurd (hr.2 h) (by simp)
    rcases hR.set with ⟨rfl, _⟩ | ⟨b, rfl, _⟩
    · exact atom_add_nil p o T cs sv xs a w hT hB h0 h1 hR hr' hk hn
    · exact atom_add_some p o T cs sv b xs a w hT hB h0 h1 hR hr' hk hn

end Go.Proofs.Ytkldepflfomegaa
