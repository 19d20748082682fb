/- The channels' table as its laws see it. -/
import Derived.Test.YtnicfiochnkjbaaT9
namespace Go.Proofs.Ytnicfiochnkjbaa
open Go.RowKit
/-- A table that has been made since w: what it holds. -/
structure TabP (w wr : World) (t mb : Nat) (room : Int) (E : List TEnt) (G : List Int) : Prop where
  tab : TabIs wr w.heap.size t mb room E G
  since : Kept w wr
  keys : E.Pairwise (fun a b => a.ch ≠ b.ch)
  dis : ∀ x ∈ E, x.ch ∉ G
  len : (E.length : Int) ≤ room
  lo : 1 ≤ room
  hi : room ≤ 50
  span : ∀ x ∈ E, x.ch / 8192 = 2
section
variable {w wr w' : World} {t mb : Nat} {room c : Int} {E : List TEnt} {G : List Int} {who : List ByteArray}
theorem TFoot.ge {base k : Nat} (hm : base ≤ mb) (h : TFoot base mb w k) : base ≤ k := by
  rcases h with h | h
  · omega
  · exact h.1
theorem TabP.kept (h : TabP w wr t mb room E G) (hK : Kept wr w') : TabP w w' t mb room E G := ⟨h.tab.kept hK, h.since.to hK, h.keys, h.dis, h.len, h.lo, h.hi, h.span⟩
theorem TabP.few (h : TabP w wr t mb room E G) : E.length ≤ 50 := by have := h.len; have := h.hi; omega
theorem TabP.onto {E' : List TEnt} {G' : List Int} (h : TabP w wr t mb room E G) (h' : TabIs w' w.heap.size t mb room E' G') (hT : Turned (TFoot w.heap.size mb wr) wr w') (h1 : E'.Pairwise (fun a b => a.ch ≠ b.ch)) (h2 : ∀ x ∈ E', x.ch ∉ G') (h3 : (E'.length : Int) ≤ room) (h4 : ∀ x ∈ E', x.ch / 8192 = 2) : TabP w w' t mb room E' G' :=
  ⟨h', h.since.then_ hT (fun i hi e => by have := TFoot.ge h.tab.gm e; omega), h1, h2, h3, h.lo, h.hi, h4⟩
theorem found_none_ne (h : foundT c E = none) : ∀ x ∈ E, x.ch ≠ c := fun x hx e => by
  unfold foundT at h
  have := List.find?_eq_none.1 h x hx
  rw [e] at this
  simp at this
theorem goneB_false (h : goneB c G = false) : c ∉ G := fun hm => by
  unfold goneB at h
  rw [decide_eq_true hm] at h
  cases h
theorem openEr_zero (h : openEr c who E G = 0) : c / 8192 = 2 ∧ setR who = true ∧ foundT c E = none ∧ goneB c G = false := by
  unfold openEr at h
  split at h
  · cases h
  · rename_i h1
    split at h
    · cases h
    · rename_i h2
      split at h
      · cases h
      · rename_i h3
        split at h
        · cases h
        · rename_i h4
          refine ⟨by simpa using h1, by simpa using h2, ?_, by simpa using h4⟩
          rcases hf : foundT c E with _ | x
          · rfl
          · rw [hf] at h3
            exact absurd rfl h3
/-- What Open tells. -/
def OpenP (w wr : World) (t mb : Nat) (room c : Int) (who : List ByteArray) (E : List TEnt) (G : List Int) (e : Ending) (w' : World) : Prop :=
  (openEr c who E G ≠ 0 ∧ e = .returned (.tuple #[.int .u16 0, .int .i64 (openEr c who E G)]) ∧ TabP w w' t mb room E G ∧ Kept wr w') ∨
  (openEr c who E G = 0 ∧ ∃ y : TEnt, y.ch = c ∧ y.who = who ∧ y.last = -1 ∧ (∀ g, y.ownB = some g → wr.heap.size ≤ g) ∧ e = .returned (.tuple #[.int .u16 (outT room E), .int .i64 0]) ∧ TabP w w' t mb room (cutT room E ++ [y]) (goneT room E G) ∧ Turned (TFoot w.heap.size mb wr) wr w')
theorem cut_mem {x : TEnt} (h : x ∈ cutT room E) : x ∈ E := by
  unfold cutT at h
  split at h
  · exact List.mem_of_mem_tail h
  · exact h
theorem cut_props (hk : E.Pairwise (fun a b => a.ch ≠ b.ch)) (hd : ∀ x ∈ E, x.ch ∉ G) (hlo : 1 ≤ room) (hl : (E.length : Int) ≤ room) :
    (cutT room E).Pairwise (fun a b => a.ch ≠ b.ch) ∧ (∀ x ∈ cutT room E, x.ch ∉ goneT room E G) ∧ ((cutT room E).length : Int) + 1 ≤ room ∧ (∀ d, d ∈ goneT room E G → d ∈ G ∨ ∃ x ∈ E, x.ch = d) := by
  unfold cutT goneT outT
  by_cases hf : room ≤ (E.length : Int)
  · rw [if_pos hf, if_pos hf, if_pos hf]
    cases E with
    | nil => simp at hf; omega
    | cons x E1 =>
      rw [List.pairwise_cons] at hk
      refine ⟨hk.2, fun z hz hm => ?_, ?_, fun d hd' => ?_⟩
      · rcases List.mem_append.1 hm with hm | hm
        · exact hd z (by simp at hz; simp [hz]) hm
        · exact hk.1 z hz (List.mem_singleton.1 hm).symm
      · simp at hl ⊢
        omega
      · rcases List.mem_append.1 hd' with h | h
        · exact .inl h
        · exact .inr ⟨x, by simp, (List.mem_singleton.1 h).symm⟩
  · rw [if_neg hf, if_neg hf]
    exact ⟨hk, hd, by omega, fun d h => .inl h⟩
theorem open_p (h : TabP w wr t mb room E G) (hc : u16 c) (A : Option Addr) (cp : Nat) (hl : who.length ≤ 1000) (hs : ∀ s ∈ who, s.size ≤ 1000000) (hr : ReadsT Value.string wr wr.heap.size 1 A who) (hrw : ∀ b o, 0 < who.length → A = some ⟨b, o, none⟩ → b < wr.heap.size → ¬ TFoot w.heap.size mb wr b) :
    Calls Try.prog 50 #[.pointer (some ⟨t, 0, none⟩), .int .u16 c, .slice A who.length cp] wr (OpenP w wr t mb room c who E G) := by
  refine (open_table h.tab (by have := h.few; omega) hc h.lo h.dis A cp hl hs hr hrw).mono fun e w' hp => ?_
  rcases hp with ⟨h1, h2, h3, h4⟩ | ⟨h1, y, hy1, hy2, hy3, hy4, h2, h3, h4⟩
  · exact .inl ⟨h1, h2, h.kept h4, h4⟩
  · obtain ⟨z1, z2, z3, z4⟩ := openEr_zero h1
    obtain ⟨p1, p2, p3, p4⟩ := cut_props h.keys h.dis h.lo h.len
    have hne := found_none_ne z3
    have hcn : c ∉ goneT room E G := fun hm => by
      rcases p4 c hm with hm | ⟨x, hx, e⟩
      · exact goneB_false z4 hm
      · exact hne x hx e
    refine .inr ⟨h1, y, hy1, hy2, hy3, hy4, h2, h.onto h3 h4 ?_ ?_ ?_ ?_, h4⟩
    · rw [List.pairwise_append]
      refine ⟨p1, List.pairwise_singleton _ _, fun a ha b hb => ?_⟩
      rw [List.mem_singleton.1 hb, hy1]
      exact hne a (cut_mem ha)
    · intro x hx
      rcases List.mem_append.1 hx with hx | hx
      · exact p2 x hx
      · rw [List.mem_singleton.1 hx, hy1]
        exact hcn
    · rw [List.length_append, List.length_singleton]
      omega
    · intro x hx
      rcases List.mem_append.1 hx with hx | hx
      · exact h.span x (cut_mem hx)
      · rw [List.mem_singleton.1 hx, hy1]
        exact z1
theorem dropE_sub : (dropE c E).Sublist E := by
  unfold dropE
  split
  · exact List.eraseIdx_sublist _ _
  · exact List.Sublist.refl _
theorem dropE_ne (hk : E.Pairwise (fun a b => a.ch ≠ b.ch)) : ∀ x ∈ dropE c E, x.ch ≠ c := by
  intro x hx e
  unfold dropE at hx
  rcases hp : placeT c E with _ | i
  · rw [hp] at hx
    exact notin_place hp x hx e
  · rw [hp] at hx
    simp only at hx
    obtain ⟨z, hz1, hz2, hz3, hz4⟩ := placeT_in hp
    rw [List.mem_eraseIdx_iff_getElem] at hx
    obtain ⟨k, hk1, hk2, hk3⟩ := hx
    have hzi : E[i] = z := by rw [List.getElem?_eq_getElem hz4] at hz1; injection hz1
    rw [List.pairwise_iff_getElem] at hk
    rcases Nat.lt_or_gt_of_ne hk2 with hlt | hlt
    · exact hk k i hk1 hz4 hlt (by rw [hk3, hzi, e, hz3])
    · exact hk i k hz4 hk1 hlt (by rw [hk3, hzi, e, hz3])
theorem close_p (h : TabP w wr t mb room E G) (hc : u16 c) :
    Calls Try.prog 52 #[.pointer (some ⟨t, 0, none⟩), .int .u16 c] wr fun e w' => e = .returned (.int .i64 (getEr c E G)) ∧ TabP w w' t mb room (if (openT c E G).isSome then dropE c E else E) (if (openT c E G).isSome then G ++ [c] else G) ∧ Turned (TFoot w.heap.size mb wr) wr w' := by
  refine (close_table h.tab (by have := h.few; omega) hc).mono fun e w' ⟨h1, h2, h3⟩ => ⟨h1, ?_, h3⟩
  rcases ho : (openT c E G).isSome with _ | _
  · rw [ho] at h2
    exact h.onto h2 h3 h.keys h.dis h.len h.span
  · rw [ho] at h2
    refine h.onto h2 h3 (h.keys.sublist dropE_sub) (fun x hx hm => ?_) ?_ (fun x hx => h.span x (dropE_sub.subset hx))
    · rcases List.mem_append.1 hm with hm | hm
      · exact h.dis x (dropE_sub.subset hx) hm
      · exact dropE_ne h.keys x hx (List.mem_singleton.1 hm)
    · have := dropE_len (c := c) (E := E)
      have := h.len
      simp only [if_true]
      omega
theorem useE_props {seq : Int} (h : TabP w wr t mb room E G) : (useE c seq E G).Pairwise (fun a b => a.ch ≠ b.ch) ∧ (∀ x ∈ useE c seq E G, x.ch ∉ G) ∧ ((useE c seq E G).length : Int) ≤ room ∧ (∀ x ∈ useE c seq E G, x.ch / 8192 = 2) := by
  unfold useE
  rcases ho : openT c E G with _ | x
  · exact ⟨h.keys, h.dis, h.len, h.span⟩
  · simp only
    split
    · exact ⟨h.keys, h.dis, h.len, h.span⟩
    · split
      · exact ⟨h.keys, h.dis, h.len, h.span⟩
      · obtain ⟨_, _, _, hng, hx, hxc⟩ := open_some ho
        refine ⟨?_, fun z hz => ?_, ?_, fun z hz => ?_⟩
        · rw [List.pairwise_append]
          refine ⟨h.keys.sublist dropE_sub, List.pairwise_singleton _ _, fun a ha b hb => ?_⟩
          rw [List.mem_singleton.1 hb]
          show a.ch ≠ x.ch
          rw [hxc]
          exact dropE_ne h.keys a ha
        · rcases List.mem_append.1 hz with hz | hz
          · exact h.dis z (dropE_sub.subset hz)
          · rw [List.mem_singleton.1 hz]
            exact h.dis x hx
        · have hlt : (dropE c E).length < E.length := by
            unfold dropE
            rcases hp : placeT c E with _ | i
            · exact absurd hxc (notin_place hp x hx)
            · simp only
              obtain ⟨z, _, _, _, hz4⟩ := placeT_in hp
              rw [List.length_eraseIdx_of_lt hz4]
              omega
          have := h.len
          rw [List.length_append, List.length_singleton]
          omega
        · rcases List.mem_append.1 hz with hz | hz
          · exact h.span z (dropE_sub.subset hz)
          · rw [List.mem_singleton.1 hz]
            exact h.span x hx
theorem use_p (h : TabP w wr t mb room E G) (hc : u16 c) (seq : Int) :
    Calls Try.prog 51 #[.pointer (some ⟨t, 0, none⟩), .int .u16 c, .int .i64 seq] wr fun e w' => e = .returned (.int .i64 (useEr c seq E G)) ∧ TabP w w' t mb room (useE c seq E G) G ∧ Turned (TFoot w.heap.size mb wr) wr w' := by
  refine (use_table h.tab (by have := h.few; omega) hc seq).mono fun e w' ⟨h1, h2, h3⟩ => ⟨h1, ?_, h3⟩
  obtain ⟨p1, p2, p3, p4⟩ := useE_props (c := c) (seq := seq) h
  exact h.onto h2 h3 p1 p2 p3 p4
/-- What New tells, to the laws. -/
def NewTP (room : Int) (w wr : World) (e : Ending) (w' : World) : Prop :=
  ((room < 1 ∨ 50 < room) ∧ e = .returned (.pointer none) ∧ wr = w') ∨ (1 ≤ room ∧ room ≤ 50) ∧ ∃ t mb, e = .returned (.pointer (some ⟨t, 0, none⟩)) ∧ TabP w w' t mb room [] [] ∧ Kept wr w' ∧ wr.heap.size ≤ t ∧ wr.heap.size ≤ mb
theorem new_tp (hK : Kept w wr) (hr : i64 room) : Calls Try.prog 28 #[.int .i64 room] wr (NewTP room w wr) := by
  refine (new_table room wr hr).mono fun e w' h => ?_
  rcases h with h | ⟨h1, p, mb, h2, h3, h4, h5, h6⟩
  · exact .inl h
  · exact .inr ⟨h1, p, mb, h2, ⟨h3 _ hK.size, hK.to h4, List.Pairwise.nil, fun x hx => (by cases hx), by simp; omega, h1.1, h1.2, fun x hx => (by cases hx)⟩, h4, h5, h6⟩
end
end Go.Proofs.Ytnicfiochnkjbaa
