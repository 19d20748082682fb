/- The cache's asked. -/
import Derived.Test.YtnicfiochnkjbaaC9
import Derived.Test.YtnicfiochnkjbaaBlk
namespace Go.Proofs.Ytnicfiochnkjbaa
open Go.RowKit

def askQ (o p : Int) (who : List ByteArray) : Qu := if setR who then ⟨o, p, who⟩ else noQ
theorem noQ_cells : quC noQ = #[.int .i64 0, .int .i64 0, .string ⟨#[]⟩, .string ⟨#[]⟩, .string ⟨#[]⟩, .string ⟨#[]⟩, .string ⟨#[]⟩, .string ⟨#[]⟩, .string ⟨#[]⟩, .string ⟨#[]⟩, .string ⟨#[]⟩, .string ⟨#[]⟩, .string ⟨#[]⟩, .string ⟨#[]⟩, .string ⟨#[]⟩, .string ⟨#[]⟩, .string ⟨#[]⟩, .string ⟨#[]⟩] := rfl
theorem info_qu : (Try.prog.info? 94).map (·.size) = some 18 := by kernel_rfl
theorem info_word : (Try.prog.info? 51).map (·.size) = some 1 := by kernel_rfl
theorem quC_one (q : Qu) : (quC q).all (·.oneCell') = true := all_oneCell_toArray (quL_one q)
/-- Who, in its places. -/
theorem splice_qu {who : List ByteArray} {o p : Int} (h : setR who = true) : (splice (quL ⟨o, p, []⟩) 2 (who.map Value.string)).toArray = quC ⟨o, p, who⟩ := by
  obtain ⟨h1, h2, _⟩ := setR_parts h
  have e0 : quL ⟨o, p, []⟩ = [.int .i64 o, .int .i64 p] ++ List.replicate 16 (.string ⟨#[]⟩) := rfl
  unfold quC
  congr 1
  unfold splice
  rw [e0]
  unfold quL padW
  rw [List.take_of_length_le h2, List.length_map, List.map_append, List.map_replicate, List.drop_append, List.drop_of_length_le (by simp), List.drop_replicate]
  simp only [List.length_cons, List.length_nil, List.nil_append, List.cons_append, List.take_succ_cons, List.take_zero]
  congr 5
  omega

set_option maxRecDepth 100000 in
set_option maxHeartbeats 2000000 in
theorem asked_any (o p v t : Int) (A : Option Addr) (c : Nat) (who : List ByteArray) (w : World) (hl : who.length ≤ 1000) (hs : ∀ s ∈ who, s.size ≤ 1000000) (hr : ReadsT Value.string w w.heap.size 1 A who) :
    Calls Try.prog 44 #[.agg #[.int .i64 o, .int .i64 p, .slice A who.length c, .int .i64 v, .int .i64 t]] w fun e w' => e = .returned (.tuple #[quV (askQ o p who), .bool (setR who)]) ∧ Kept w w' := by
  have hK0 : ∀ o1 o2, Kept w ((w.alloc o1).alloc o2) := fun o1 o2 => ((Turned.refl _ w).alloc o1).alloc o2
  have C := fun o1 o2 => set_any A c who ((w.alloc o1).alloc o2) hl hs (hr.kept (hK0 o1 o2))
  have HQ : Hid (askQ o p who = if setR who then ⟨o, p, who⟩ else noQ) := Lib.hid rfl
  have HR := Lib.hid hr
  have FB := fun n => Lib.hid ((Blk.new w 25 #[.int .i64 o, .int .i64 p, .slice A who.length c, .int .i64 v, .int .i64 t]).alloc (.cells #[.int .i64 0, .int .i64 0, .string ⟨#[]⟩, .string ⟨#[]⟩, .string ⟨#[]⟩, .string ⟨#[]⟩, .string ⟨#[]⟩, .string ⟨#[]⟩, .string ⟨#[]⟩, .string ⟨#[]⟩, .string ⟨#[]⟩, .string ⟨#[]⟩, .string ⟨#[]⟩, .string ⟨#[]⟩, .string ⟨#[]⟩, .string ⟨#[]⟩, .string ⟨#[]⟩, .string ⟨#[]⟩] 94) |>.drewN n)
  have FC : ∀ n, Hid (Blk (((w.alloc (.cells #[.int .i64 o, .int .i64 p, .slice A who.length c, .int .i64 v, .int .i64 t] 25)).alloc (.cells #[.int .i64 0, .int .i64 0, .string ⟨#[]⟩, .string ⟨#[]⟩, .string ⟨#[]⟩, .string ⟨#[]⟩, .string ⟨#[]⟩, .string ⟨#[]⟩, .string ⟨#[]⟩, .string ⟨#[]⟩, .string ⟨#[]⟩, .string ⟨#[]⟩, .string ⟨#[]⟩, .string ⟨#[]⟩, .string ⟨#[]⟩, .string ⟨#[]⟩, .string ⟨#[]⟩, .string ⟨#[]⟩] 94)).drewN n) (w.heap.size + 1) 94 (quC noQ)) := fun n => Lib.hid (by have h := (Blk.new (w.alloc (.cells #[.int .i64 o, .int .i64 p, .slice A who.length c, .int .i64 v, .int .i64 t] 25)) 94 #[.int .i64 0, .int .i64 0, .string ⟨#[]⟩, .string ⟨#[]⟩, .string ⟨#[]⟩, .string ⟨#[]⟩, .string ⟨#[]⟩, .string ⟨#[]⟩, .string ⟨#[]⟩, .string ⟨#[]⟩, .string ⟨#[]⟩, .string ⟨#[]⟩, .string ⟨#[]⟩, .string ⟨#[]⟩, .string ⟨#[]⟩, .string ⟨#[]⟩, .string ⟨#[]⟩, .string ⟨#[]⟩]).drewN n; rw [World.size_alloc] at h; exact h)
  have FK := fun n => Lib.hid ((hK0 (.cells #[.int .i64 o, .int .i64 p, .slice A who.length c, .int .i64 v, .int .i64 t] 25) (.cells #[.int .i64 0, .int .i64 0, .string ⟨#[]⟩, .string ⟨#[]⟩, .string ⟨#[]⟩, .string ⟨#[]⟩, .string ⟨#[]⟩, .string ⟨#[]⟩, .string ⟨#[]⟩, .string ⟨#[]⟩, .string ⟨#[]⟩, .string ⟨#[]⟩, .string ⟨#[]⟩, .string ⟨#[]⟩, .string ⟨#[]⟩, .string ⟨#[]⟩, .string ⟨#[]⟩, .string ⟨#[]⟩] 94)).drewN n)
  have FS0 : ∀ n, Hid ((((w.alloc (.cells #[.int .i64 o, .int .i64 p, .slice A who.length c, .int .i64 v, .int .i64 t] 25)).alloc (.cells #[.int .i64 0, .int .i64 0, .string ⟨#[]⟩, .string ⟨#[]⟩, .string ⟨#[]⟩, .string ⟨#[]⟩, .string ⟨#[]⟩, .string ⟨#[]⟩, .string ⟨#[]⟩, .string ⟨#[]⟩, .string ⟨#[]⟩, .string ⟨#[]⟩, .string ⟨#[]⟩, .string ⟨#[]⟩, .string ⟨#[]⟩, .string ⟨#[]⟩, .string ⟨#[]⟩, .string ⟨#[]⟩] 94)).drewN n).heap.size = w.heap.size + 2) := fun n => Lib.hid (by simp)
  rcases hm : setR who with _ | _
  · rw [hm] at C HQ
    have D := Lib.hid C
    have HE : Hid (askQ o p who = noQ) := HQ.out
    clear C hm hr hs hK0 HQ
    go_enter Try.func44, Try.ntmps44
    go_wp2_with fail
    refine (D.out _ _).mono ?_
    rintro e w1 ⟨rfl, n1, rfl⟩
    have F1 := FC n1
    have F2 := FK n1
    have F3 := FS0 n1
    clear FB FC FK FS0
    generalize ((w.alloc (.cells #[.int .i64 o, .int .i64 p, .slice A who.length c, .int .i64 v, .int .i64 t] 25)).alloc (.cells #[.int .i64 0, .int .i64 0, .string ⟨#[]⟩, .string ⟨#[]⟩, .string ⟨#[]⟩, .string ⟨#[]⟩, .string ⟨#[]⟩, .string ⟨#[]⟩, .string ⟨#[]⟩, .string ⟨#[]⟩, .string ⟨#[]⟩, .string ⟨#[]⟩, .string ⟨#[]⟩, .string ⟨#[]⟩, .string ⟨#[]⟩, .string ⟨#[]⟩, .string ⟨#[]⟩, .string ⟨#[]⟩] 94)).drewN n1 = w1 at F1 F2 F3 ⊢
    have hz := F1.out
    go_wp2_with (refine wpList_store_blk rfl (.tmp 2) (.tmp 9) rfl rfl (cs' := quC noQ) rfl hz info_qu rfl (quC_one noQ) ?_; intro w2 hz2 hT2 hs2)
    refine bodyPost_ret (v := .tuple #[quV noQ, .bool false]) (results_blk (p := 2) (q := 3) Try.results44 _ rfl rfl hz2 Try.underlying94 rfl info_qu) rfl ⟨by rw [HE.out], ?_⟩
    exact F2.out.then_ hT2 (fun i hi h => by omega)
  · rw [hm] at C HQ
    have D := Lib.hid C
    have HE : Hid (askQ o p who = ⟨o, p, who⟩) := HQ.out
    have HM := Lib.hid hm
    obtain ⟨_, hlen, _⟩ := setR_parts hm
    clear C hm hr hs hK0 HQ
    go_enter Try.func44, Try.ntmps44
    go_wp2_with fail
    refine (D.out _ _).mono ?_
    rintro e w1 ⟨rfl, n1, rfl⟩
    have F0 := FB n1
    have F1 := FC n1
    have F2 := FK n1
    have F3 := FS0 n1
    clear FB FC FK FS0
    generalize ((w.alloc (.cells #[.int .i64 o, .int .i64 p, .slice A who.length c, .int .i64 v, .int .i64 t] 25)).alloc (.cells #[.int .i64 0, .int .i64 0, .string ⟨#[]⟩, .string ⟨#[]⟩, .string ⟨#[]⟩, .string ⟨#[]⟩, .string ⟨#[]⟩, .string ⟨#[]⟩, .string ⟨#[]⟩, .string ⟨#[]⟩, .string ⟨#[]⟩, .string ⟨#[]⟩, .string ⟨#[]⟩, .string ⟨#[]⟩, .string ⟨#[]⟩, .string ⟨#[]⟩, .string ⟨#[]⟩, .string ⟨#[]⟩] 94)).drewN n1 = w1 at F0 F1 F2 F3 ⊢
    have c0 : w1.cell? ⟨w.heap.size, 0, none⟩ = some (.int .i64 o) := F0.out.cell 0
    have c1 : w1.cell? ⟨w.heap.size, 1, none⟩ = some (.int .i64 p) := F0.out.cell 1
    have hsz : w.heap.size + 2 ≤ w1.heap.size := by have := F3.out; omega
    have hN : Hid (Blk (w1.alloc (.cells #[.int .i64 0, .int .i64 0, .string ⟨#[]⟩, .string ⟨#[]⟩, .string ⟨#[]⟩, .string ⟨#[]⟩, .string ⟨#[]⟩, .string ⟨#[]⟩, .string ⟨#[]⟩, .string ⟨#[]⟩, .string ⟨#[]⟩, .string ⟨#[]⟩, .string ⟨#[]⟩, .string ⟨#[]⟩, .string ⟨#[]⟩, .string ⟨#[]⟩, .string ⟨#[]⟩, .string ⟨#[]⟩] 94)) w1.heap.size 94 (quC noQ)) := Lib.hid (Blk.new w1 _ _)
    go_wp2_with (refine wpList_store_blk rfl (.tmp 4) (.tmp 15) rfl rfl (cs' := quC ⟨o, p, []⟩) rfl hN.out info_qu rfl (quC_one _) ?_; intro w2 hz2 hT2 hs2)
    have hT12 : Turned (fun i => i = w1.heap.size) w1 w2 := ((Turned.refl _ w1).alloc _).then_ hT2 (fun i hi h => h)
    have c2 : w2.cell? ⟨w.heap.size, 2, none⟩ = some (.slice A who.length c) := (hT12.cell (p := ⟨w.heap.size, 2, none⟩) (by show w.heap.size < _; omega) (by show ¬ w.heap.size = _; omega)).trans (F0.out.cell 2)
    have hsz2 : w2.heap.size = w1.heap.size + 1 := by rw [hs2]; simp
    have HR2 := HR.out.kept (F2.out.then_ hT12 (fun i hi h => by omega))
    have HS2 := Lib.hid hsz2
    clear hsz2 hs2 hT2 hN c0 c1
    have HP : Hid (0 < (who.map Value.string).length → (some ⟨w1.heap.size, 2, none⟩ : Option Addr) = some ⟨w1.heap.size, 2, none⟩ ∧ ∃ ad, A = some ad ∧ ∀ j v, (who.map Value.string)[j]? = some v → w2.drew.cell? (ad.add j) = some v) := by
      intro h
      obtain ⟨b, oo, hA, _, hcell⟩ := HR2.cells (size := 1) (fun _ => rfl) (by omega) (by simpa using h)
      rw [cellsOf_one (fun _ => rfl)] at hcell
      exact ⟨rfl, _, hA, fun j u hu => by rw [Addr.add_lit]; exact hcell j u hu⟩
    have HN : Hid ((who.map Value.string).length = Nat.min who.length 16) := by
      show (who.map Value.string).length = Nat.min who.length 16
      rw [List.length_map]
      exact (Nat.min_eq_left hlen).symm
    have HF : Hid (2 + (who.map Value.string).length ≤ (quL ⟨o, p, []⟩).length) := by
      show 2 + (who.map Value.string).length ≤ (quL ⟨o, p, []⟩).length
      rw [List.length_map]
      show 2 + who.length ≤ 18
      omega
    have HO : Hid (∀ v ∈ who.map Value.string, v.oneCell' = true) := fun v hv => by obtain ⟨x, _, rfl⟩ := List.mem_map.1 hv; rfl
    go_region_law (refine step_copy_splice rfl (.tmp 17) (.tmp 19) 22 23 rfl 51 Try.underlying22 info_word (some ⟨w1.heap.size, 2, none⟩) A 16 16 who.length c rfl rfl w1.heap.size 2 (quL ⟨o, p, []⟩) 94 hz2 (who.map Value.string) HN.out HP.out HF.out HO.out w1.heap.size _ (Below.refl _ _) (Nat.le_refl _) ?_; intro w3 hz3 hb3)
    have hB3 : Blk w3 w1.heap.size 94 (quC ⟨o, p, who⟩) := by
      have h := hz3.out
      rw [splice_qu HM.out] at h
      exact h
    have hT3 : Turned (fun i => w1.heap.size ≤ i) w2 w3 := ((Turned.refl _ w2).drew).then_ (Turned.of_below (B := w1.heap.size) hb3) (fun i hi h => h)
    have hT13 : Turned (fun i => w1.heap.size ≤ i) w1 w3 := (hT12.mono (fun i hi h => by omega)).then_ hT3 (fun i hi h => h)
    have hB1 : Blk w3 (w.heap.size + 1) 94 (quC noQ) := F1.out.turned hT13 (by omega)
    clear hz3 hb3 hT3 hz2 c2 HP HN HF HO HR2 hT12
    go_wp2_with (first
      | (refine wpList_load_blk rfl (.tmp 4) rfl rfl hB3 Try.underlying94 rfl (by rw [quC_size]; exact info_qu) ?_)
      | (refine wpList_store_blk rfl (.tmp 2) (.tmp 21) rfl rfl rfl hB1 (by rw [quC_size]; exact info_qu) (by rw [quC_size, quC_size]) (quC_one _) ?_; intro w4 hz4 hT4 hs4))
    refine bodyPost_ret (v := .tuple #[quV ⟨o, p, who⟩, .bool true]) (results_blk (p := 2) (q := 3) Try.results44 _ rfl rfl hz4 Try.underlying94 rfl (by rw [quC_size]; exact info_qu)) rfl ⟨by rw [HE.out], ?_⟩
    exact (F2.out.then_ hT13 (fun i hi h => by omega)).then_ hT4 (fun i hi h => by omega)
end Go.Proofs.Ytnicfiochnkjbaa
