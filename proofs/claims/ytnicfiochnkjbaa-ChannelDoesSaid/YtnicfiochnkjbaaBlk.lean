/- Loads and stores of whole blocks. No statement of the program is proved here. -/
import Derived.Test.YtnicfiochnkjbaaHeld
import Derived.Deep.MidRow
import Derived.Laws.Rows
namespace Go.Proofs.Ytnicfiochnkjbaa
open Go.RowKit
section
variable {P : Program} {w : World} {ops : Array Oper} {rest : List Oper} {o : Oper} {a : Act} {Q : Exit → Act → World → Prop} {K : Act → World → Prop} {g : Nat} {t ty : TypeId} {cs cs' : Array Value} {d : TypeDesc}

theorem run_load_blk (hB : Blk w g t cs) (hu : P.underlying ty = some d) (hd : d.isRow = true) (hi : (P.info? ty).map (·.size) = some cs.size) : (loadVar ty ⟨g, 0, none⟩).run P w = .ok (.agg cs) w :=
  run_loadVar_row w g t ty cs (0, 0) d hB hu (by cases d <;> simp_all [TypeDesc.isRow]) hi
theorem wp_load_blk (x : Operand) (ho : o.op = .load ty x) (hx : a.eval x = .pointer (some ⟨g, 0, none⟩)) (hB : Blk w g t cs) (hu : P.underlying ty = some d) (hd : d.isRow = true) (hi : (P.info? ty).map (·.size) = some cs.size)
    (h : K (a.put o.dst (.agg cs)) w) : o.wp P a w K Q := by
  unfold Oper.wp execOp
  simp only [ho, hx, Instr.loadAt, Instr.sureAddr, Sem.run_bind, Sem.run_pure, Result.andThen_ok, run_load_blk hB hu hd hi]
  exact h
theorem wpList_load_blk (hgd : o.guard = none) (x : Operand) (ho : o.op = .load ty x) (hx : a.eval x = .pointer (some ⟨g, 0, none⟩)) (hB : Blk w g t cs) (hu : P.underlying ty = some d) (hd : d.isRow = true) (hi : (P.info? ty).map (·.size) = some cs.size)
    (h : wpList P ops Q rest (a.put o.dst (.agg cs)) w) : wpList P ops Q (o :: rest) a w :=
  wpList_plain hgd fun _ hK => wp_load_blk x ho hx hB hu hd hi (hK _ _ h)
theorem exec_load_blk (x : Operand) (ho : o.op = .load ty x) (hx : a.eval x = .pointer (some ⟨g, 0, none⟩)) (hB : Blk w g t cs) (hu : P.underlying ty = some d) (hd : d.isRow = true) (hi : (P.info? ty).map (·.size) = some cs.size) :
    (execOp a.eval o).run P w = .ok (.value (.agg cs)) w := by
  unfold execOp
  simp only [ho, hx, Instr.loadAt, Instr.sureAddr, Sem.run_bind, Sem.run_pure, Result.andThen_ok, run_load_blk hB hu hd hi]

theorem setRow_blk (hB : Blk w g t cs) (cs' : Array Value) : Blk (w.setRow g cs') g t cs' := by
  unfold Blk at *
  simp [World.setRow, Array.getElem?_modify, hB]
theorem setRow_turned (w : World) (g : Nat) (cs' : Array Value) : Turned (fun i => i = g) w (w.setRow g cs') :=
  ⟨rfl, rfl, rfl, by simp, fun k _ hn => by simp [World.setRow, Array.getElem?_modify, Ne.symm hn]⟩
theorem wp_store_blk (x y : Operand) (ho : o.op = .store ty x y) (hx : a.eval x = .pointer (some ⟨g, 0, none⟩)) (hy : a.eval y = .agg cs') (hB : Blk w g t cs) (hi : (P.info? ty).map (·.size) = some cs'.size) (hsz : cs.size = cs'.size) (h1 : cs'.all (·.oneCell') = true)
    (h : Blk (w.setRow g cs') g t cs' → Turned (fun i => i = g) w (w.setRow g cs') → (w.setRow g cs').heap.size = w.heap.size → K (a.put o.dst undef) (w.setRow g cs')) : o.wp P a w K Q := by
  unfold Oper.wp execOp
  simp only [ho, hx, hy, Instr.storeAt, Instr.sureAddr, Sem.run_bind, Sem.run_pure, Result.andThen_ok, run_storeVar_row w g t ty cs cs' hB hi hsz h1]
  exact h (setRow_blk hB cs') (setRow_turned w g cs') (by simp)
theorem wpList_store_blk (hgd : o.guard = none) (x y : Operand) (ho : o.op = .store ty x y) (hx : a.eval x = .pointer (some ⟨g, 0, none⟩)) (hy : a.eval y = .agg cs') (hB : Blk w g t cs) (hi : (P.info? ty).map (·.size) = some cs'.size) (hsz : cs.size = cs'.size) (h1 : cs'.all (·.oneCell') = true)
    (h : ∀ w', Blk w' g t cs' → Turned (fun i => i = g) w w' → w'.heap.size = w.heap.size → wpList P ops Q rest (a.put o.dst undef) w') : wpList P ops Q (o :: rest) a w :=
  wpList_plain hgd fun _ hK => wp_store_blk x y ho hx hy hB hi hsz h1 (fun b1 b2 b3 => hK _ _ (h _ b1 b2 b3))
/-- Two results: a whole block, and what a slot holds. -/
theorem results_blk {fn : Func} {p q : Nat} (h : fn.results = #[.cell p ty, .tmp q]) (tmps : Array Value) {v : Value} (hp : tmps.getD p undef = .pointer (some ⟨g, 0, none⟩)) (hq : tmps.getD q undef = v) (hB : Blk w g t cs) (hu : P.underlying ty = some d) (hd : d.isRow = true) (hi : (P.info? ty).map (·.size) = some cs.size) :
    (results fn tmps).run P w = .ok (.tuple #[.agg cs, v]) w := by
  have hp' : tmps[p]?.getD undef = .pointer (some ⟨g, 0, none⟩) := by simpa using hp
  have hq' : tmps[q]?.getD undef = v := by simpa using hq
  simp [results, h, hp', hq', asAddr, run_load_blk hB hu hd hi]
end
end Go.Proofs.Ytnicfiochnkjbaa
