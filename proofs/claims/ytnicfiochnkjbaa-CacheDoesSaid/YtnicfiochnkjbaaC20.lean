/- Plain facts on forgetting. -/
import Derived.Test.YtnicfiochnkjbaaC19
namespace Go.Proofs.Ytnicfiochnkjbaa
section
variable {X : List Ent} {q : Qu} {ob ver turn t : Int}
theorem forgetX_mem {x : Ent} : x ∈ forgetX ob X ↔ x ∈ X ∧ x.q.obj ≠ ob := by
  unfold forgetX
  rw [List.mem_filter, decide_eq_true_eq]
theorem forget_twice : forgetX ob (forgetX ob X) = forgetX ob X := by
  refine List.filter_eq_self.2 (fun x hx => decide_eq_true (forgetX_mem.1 hx).2)
theorem forget_drop : dropX q (forgetX ob X) = forgetX ob (dropX q X) := by
  unfold dropX forgetX
  rw [List.filter_filter, List.filter_filter]
  congr 1
  funext x
  exact Bool.and_comm _ _
theorem forget_drop_same (h : q.obj = ob) : forgetX ob (dropX q X) = forgetX ob X := by
  rw [← forget_drop]
  exact dropX_none (fun y hy e => (forgetX_mem.1 hy).2 (by rw [e]; exact h))
theorem forget_append {Z : List Ent} : forgetX ob (X ++ Z) = forgetX ob X ++ forgetX ob Z := List.filter_append ..
theorem forget_find_no (h : q.obj = ob) : findX q (forgetX ob X) = none :=
  List.find?_eq_none.2 (fun x hx he => (forgetX_mem.1 hx).2 (by rw [quEq_iff.1 he]; exact h))
theorem forget_find (h : q.obj ≠ ob) : findX q (forgetX ob X) = findX q X := by
  induction X with
  | nil => rfl
  | cons y X ih =>
    unfold findX forgetX at *
    by_cases hy : y.q.obj = ob
    · have h1 : quEq y.q q = false := by
        rw [Bool.eq_false_iff, Ne, quEq_iff]
        exact fun e => h (by rw [← e]; exact hy)
      rw [List.filter_cons, decide_eq_false (by simpa using hy), List.find?_cons, h1]
      exact ih
    · rw [List.filter_cons, decide_eq_true hy]
      simp only [if_true, List.find?_cons]
      split
      · rfl
      · exact ih
theorem forget_hit_no (h : q.obj = ob) : hitX q ver turn t (forgetX ob X) = none := by
  unfold hitX
  rw [forget_find_no h]
  split <;> rfl
theorem forget_hit (h : q.obj ≠ ob) : hitX q ver turn t (forgetX ob X) = hitX q ver turn t X := by
  unfold hitX
  rw [forget_find h]
theorem forget_get : getX q ver turn t (forgetX ob X) = forgetX ob (getX q ver turn t X) := by
  unfold getX
  split
  · by_cases h : q.obj = ob
    · rw [forget_find_no h]
      rcases hf : findX q X with _ | x
      · rfl
      · obtain ⟨hx1, hx2⟩ := findX_some hf
        simp only
        split
        · rw [forget_append, forget_drop_same h]
          have : forgetX ob [x] = [] := by
            unfold forgetX
            rw [List.filter_cons, decide_eq_false (by rw [hx2]; simpa using h)]
            rfl
          rw [this, List.append_nil]
        · rw [forget_drop_same h]
    · rw [forget_find h]
      rcases hf : findX q X with _ | x
      · rfl
      · obtain ⟨hx1, hx2⟩ := findX_some hf
        simp only
        split
        · rw [forget_append, forget_drop]
          have : forgetX ob [x] = [x] := by
            unfold forgetX
            rw [List.filter_cons, decide_eq_true (by rw [hx2]; exact h)]
            rfl
          rw [this]
        · rw [forget_drop]
  · rfl
end
end Go.Proofs.Ytnicfiochnkjbaa
