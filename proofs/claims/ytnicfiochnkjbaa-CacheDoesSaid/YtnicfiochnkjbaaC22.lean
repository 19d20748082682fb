/- The law's own key; R18.Asks. -/
import Derived.Test.YtnicfiochnkjbaaC21
import Derived.Test.YtnicfiochnkjbaaOpenC
namespace Go.Proofs.Ytnicfiochnkjbaa
open Go.RowKit
section
variable {P : Program} {w : World} {g : Nat} {t ty : TypeId} {cs : Array Value} {d : TypeDesc}
/-- One result: a whole block. -/
theorem results_one {fn : Func} {p : Nat} (h : fn.results = #[.cell p ty]) (tmps : Array Value) (hp : tmps.getD p undef = .pointer (some ⟨g, 0, none⟩)) (hB : Blk w g t cs) (hu : P.underlying ty = some d) (hd : d.isRow = true) (hi : (P.info? ty).map (·.size) = some cs.size) :
    (results fn tmps).run P w = .ok (.agg cs) w := by
  have hp' : tmps[p]?.getD undef = .pointer (some ⟨g, 0, none⟩) := by simpa using hp
  simp [results, h, hp', asAddr, run_load_blk hB hu hd hi]
end
theorem info_rkey : (Try.prog.info? 45).map (·.size) = some 5 := by kernel_rfl

set_option maxRecDepth 100000 in
theorem own_any (ob op ver turn : Int) (A : Option Addr) (n c : Nat) (w : World) :
    Calls Try.prog 22 #[.agg #[.int .i64 ob, .int .i64 op, .slice A n c, .int .i64 ver, .int .i64 turn]] w fun e w' =>
      e = .returned (.agg #[.int .i64 ob, .int .i64 op, .slice A n c, .int .i64 ver, .int .i64 turn]) ∧ Kept w w' := by
  have HB : Hid (Blk ((w.alloc (.cells #[.int .i64 ob, .int .i64 op, .slice A n c, .int .i64 ver, .int .i64 turn] 25)).alloc (.cells #[.int .i64 0, .int .i64 0, .slice none 0 0, .int .i64 0, .int .i64 0] 45)) (w.heap.size + 1) 45 #[.int .i64 0, .int .i64 0, .slice none 0 0, .int .i64 0, .int .i64 0]) := by
    have hb := Blk.new (w.alloc (.cells #[.int .i64 ob, .int .i64 op, .slice A n c, .int .i64 ver, .int .i64 turn] 25)) 45 #[.int .i64 0, .int .i64 0, .slice none 0 0, .int .i64 0, .int .i64 0]
    rw [World.size_alloc] at hb
    exact hb
  have HK : Hid (Kept w ((w.alloc (.cells #[.int .i64 ob, .int .i64 op, .slice A n c, .int .i64 ver, .int .i64 turn] 25)).alloc (.cells #[.int .i64 0, .int .i64 0, .slice none 0 0, .int .i64 0, .int .i64 0] 45))) := Lib.hid (((Turned.refl _ w).alloc _).alloc _)
  go_enter Try.func22, Try.ntmps22
  go_wp2_with (refine wpList_store_blk rfl (.tmp 2) (.tmp 13) rfl rfl (cs' := #[.int .i64 ob, .int .i64 op, .slice A n c, .int .i64 ver, .int .i64 turn]) rfl HB.out info_rkey rfl (by simp [Value.oneCell']) ?_; intro w3 hB3 hT3 hs3)
  refine bodyPost_ret (v := .agg #[.int .i64 ob, .int .i64 op, .slice A n c, .int .i64 ver, .int .i64 turn]) (results_one (p := 2) Try.results22 _ rfl hB3 Try.underlying45 rfl info_rkey) rfl ⟨rfl, ?_⟩
  exact HK.out.then_ hT3 (fun i hi h => by omega)
set_option maxRecDepth 100000 in
set_option maxHeartbeats 2000000 in
theorem asks_any (ob1 op1 v1 t1 ob2 op2 v2 t2 : Int) (A1 A2 : Option Addr) (c1 c2 : Nat) (who1 who2 : List ByteArray) (w : World) (h1 : who1.length ≤ 1000000) (h2 : who2.length ≤ 1000000) (hr1 : ReadsT Value.string w w.heap.size 1 A1 who1) (hr2 : ReadsT Value.string w w.heap.size 1 A2 who2) :
    Calls Try.prog 26 #[.agg #[.int .i64 ob1, .int .i64 op1, .slice A1 who1.length c1, .int .i64 v1, .int .i64 t1], .agg #[.int .i64 ob2, .int .i64 op2, .slice A2 who2.length c2, .int .i64 v2, .int .i64 t2]] w fun e w' => e = .returned (.bool (quEq ⟨ob1, op1, who1⟩ ⟨ob2, op2, who2⟩)) ∧ Kept w w' := by
  have hKa : Kept w ((w.alloc (.cells #[.int .i64 ob1, .int .i64 op1, .slice A1 who1.length c1, .int .i64 v1, .int .i64 t1] 45)).alloc (.cells #[.int .i64 ob2, .int .i64 op2, .slice A2 who2.length c2, .int .i64 v2, .int .i64 t2] 45)) := ((Turned.refl _ w).alloc _).alloc _
  have CE := Lib.hid (equal_any A1 A2 c1 c2 _ _ who1 who2 ((w.alloc (.cells #[.int .i64 ob1, .int .i64 op1, .slice A1 who1.length c1, .int .i64 v1, .int .i64 t1] 45)).alloc (.cells #[.int .i64 ob2, .int .i64 op2, .slice A2 who2.length c2, .int .i64 v2, .int .i64 t2] 45)) h1 h2 (hr1.kept hKa) (hr2.kept hKa))
  have HB1 : Hid (Blk ((w.alloc (.cells #[.int .i64 ob1, .int .i64 op1, .slice A1 who1.length c1, .int .i64 v1, .int .i64 t1] 45)).alloc (.cells #[.int .i64 ob2, .int .i64 op2, .slice A2 who2.length c2, .int .i64 v2, .int .i64 t2] 45)) w.heap.size 45 #[.int .i64 ob1, .int .i64 op1, .slice A1 who1.length c1, .int .i64 v1, .int .i64 t1]) := Lib.hid ((Blk.new w _ _).alloc _)
  have HB2 : Hid (Blk ((w.alloc (.cells #[.int .i64 ob1, .int .i64 op1, .slice A1 who1.length c1, .int .i64 v1, .int .i64 t1] 45)).alloc (.cells #[.int .i64 ob2, .int .i64 op2, .slice A2 who2.length c2, .int .i64 v2, .int .i64 t2] 45)) (w.heap.size + 1) 45 #[.int .i64 ob2, .int .i64 op2, .slice A2 who2.length c2, .int .i64 v2, .int .i64 t2]) := by
    have hb := Blk.new (w.alloc (.cells #[.int .i64 ob1, .int .i64 op1, .slice A1 who1.length c1, .int .i64 v1, .int .i64 t1] 45)) 45 #[.int .i64 ob2, .int .i64 op2, .slice A2 who2.length c2, .int .i64 v2, .int .i64 t2]
    rw [World.size_alloc] at hb
    exact hb
  have HK := Lib.hid hKa
  clear hKa hr1 hr2
  by_cases ho : ob1 = ob2
  · have bo : (ob1 == ob2) = true := by simpa using ho
    by_cases hp : op1 = op2
    · have bp : (op1 == op2) = true := by simpa using hp
      have HE : Hid (quEq ⟨ob1, op1, who1⟩ ⟨ob2, op2, who2⟩ = decide (who1 = who2)) := by
        show quEq ⟨ob1, op1, who1⟩ ⟨ob2, op2, who2⟩ = decide (who1 = who2)
        unfold quEq
        simp [ho, hp]
      clear ho hp
      generalize decide (who1 = who2) = r at CE HE
      go_enter Try.func26, Try.ntmps26
      go_wp2_with fail
      refine CE.out.mono ?_
      rintro e w3 ⟨rfl, n, rfl⟩
      have HK2 := Lib.hid (HK.out.drewN n)
      clear CE HB1 HB2
      go_wp2_with fail
      go_ret
      exact ⟨by rw [HE.out]; rfl, HK2.out⟩
    · have bp : (op1 == op2) = false := by simpa using hp
      have HE : Hid (quEq ⟨ob1, op1, who1⟩ ⟨ob2, op2, who2⟩ = false) := by
        show quEq ⟨ob1, op1, who1⟩ ⟨ob2, op2, who2⟩ = false
        unfold quEq
        simp [hp]
      clear ho hp CE
      go_enter Try.func26, Try.ntmps26
      go_wp2_with fail
      go_ret
      exact ⟨by rw [HE.out]; rfl, HK.out⟩
  · have bo : (ob1 == ob2) = false := by simpa using ho
    have HE : Hid (quEq ⟨ob1, op1, who1⟩ ⟨ob2, op2, who2⟩ = false) := by
      show quEq ⟨ob1, op1, who1⟩ ⟨ob2, op2, who2⟩ = false
      unfold quEq
      simp [ho]
    clear ho CE
    go_enter Try.func26, Try.ntmps26
    go_wp2_with fail
    go_ret
    exact ⟨by rw [HE.out]; rfl, HK.out⟩
end Go.Proofs.Ytnicfiochnkjbaa
