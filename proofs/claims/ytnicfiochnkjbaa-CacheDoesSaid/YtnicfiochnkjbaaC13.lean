/- The cache's Put. -/
import Derived.Test.YtnicfiochnkjbaaC12
namespace Go.Proofs.Ytnicfiochnkjbaa
open Go.RowKit
open Go.Maps (Keyed)

/-! ### plain terms -/
def quEq (a b : Qu) : Bool := decide (a.obj = b.obj ∧ a.op = b.op ∧ a.who = b.who)
theorem quEq_iff {a b : Qu} : quEq a b = true ↔ a = b := by
  obtain ⟨a1, a2, a3⟩ := a
  obtain ⟨b1, b2, b3⟩ := b
  simp [quEq]
/-- All but a question's. -/
def dropY (q : Qu) (Y : List (Ent × Int)) : List (Ent × Int) := Y.filter (fun y => !quEq y.1.q q)
/-- One goes, if there is no room for one more. -/
def trimY (room : Int) (Y : List (Ent × Int)) : List (Ent × Int) := if room ≤ (Y.length : Int) then Y.tail else Y
def putY (room uses : Int) (Y : List (Ent × Int)) (x : Ent) : List (Ent × Int) := trimY room (dropY x.q Y) ++ [(x, uses + 1)]
def putE (who : List ByteArray) (a : Int) : Int := if setR who then (if a = 0 ∨ a = 1 ∨ a = 2 then 0 else 1) else 2
theorem dropY_mem {q : Qu} {Y : List (Ent × Int)} {y : Ent × Int} : y ∈ dropY q Y ↔ y ∈ Y ∧ y.1.q ≠ q := by
  unfold dropY
  rw [List.mem_filter, Bool.not_eq_true', Bool.eq_false_iff, Ne, quEq_iff]
theorem dropY_none {q : Qu} {Y : List (Ent × Int)} (h : ∀ y ∈ Y, y.1.q ≠ q) : dropY q Y = Y := by
  unfold dropY
  rw [List.filter_eq_self]
  intro y hy
  rw [Bool.not_eq_true', Bool.eq_false_iff, Ne, quEq_iff]
  exact h y hy
theorem dropY_perm {q : Qu} {y : Ent × Int} : ∀ {Y : List (Ent × Int)}, Y.Pairwise (fun a b => a.1.q ≠ b.1.q) → y ∈ Y → y.1.q = q → Y.Perm (y :: dropY q Y)
  | [], _, h, _ => by cases h
  | z :: Y, hp, h, hq => by
    obtain ⟨h1, h2⟩ := List.pairwise_cons.1 hp
    rcases List.mem_cons.1 h with rfl | h
    · have hd : dropY q (y :: Y) = Y := by
        have : dropY q (y :: Y) = dropY q Y := by
          unfold dropY
          rw [List.filter_cons, quEq_iff.2 hq]
          rfl
        rw [this]
        exact dropY_none (fun z hz e => h1 z hz (hq.trans e.symm))
      rw [hd]
    · have hzq : quEq z.1.q q = false := by
        rw [Bool.eq_false_iff, Ne, quEq_iff]
        exact fun e => h1 y h (e.trans hq.symm)
      have hd : dropY q (z :: Y) = z :: dropY q Y := by
        unfold dropY
        rw [List.filter_cons, hzq]
        rfl
      rw [hd]
      exact ((dropY_perm h2 h hq).cons z).trans (List.Perm.swap y z _)

section
variable {w w' : World} {p mb : Nat} {room uses : Int} {Y : List (Ent × Int)} {q : Qu} {l l' : List (Value × Value)}
def qOk (q : Qu) : Prop := setR q.who = true ∧ quOk q
theorem no_key (h : CacheIs w p mb room uses Y) (hp : l.Perm (Y.map entP)) (hq : qOk q) (hno : ∀ y ∈ Y, y.1.q ≠ q) : ∀ x ∈ l, x.1 ≠ quV q := fun x hx he => by
  obtain ⟨y, hy, rfl⟩ := List.mem_map.1 (hp.mem_iff.1 hx)
  exact hno y hy (quV_inj (h.all y hy).2.1 hq.1 he)
/-- Behind a delete. -/
theorem CacheIs.drop (h : CacheIs w p mb room uses Y) (hp : l.Perm (Y.map entP)) (hm : MapAt w' Try.prog 94 mb l') (hT : Turned (fun i => i = mb) w w') (hq : qOk q) (hd : (∃ v, l.Perm ((quV q, v) :: l')) ∨ l' = l ∧ ∀ x ∈ l, x.1 ≠ quV q) :
    CacheIs w' p mb room uses (dropY q Y) := by
  have hsub : ∀ y ∈ dropY q Y, y ∈ Y := fun y hy => (dropY_mem.1 hy).1
  refine ⟨h.blk.turned hT (fun e => h.ne e), ⟨l', hm, ?_⟩, h.rise.sublist (List.filter_sublist ..), fun y hy => h.all y (hsub y hy), h.nn, fun y hy => h.pos y (hsub y hy)⟩
  rcases hd with ⟨v, hd⟩ | ⟨rfl, hd⟩
  · have hin : (quV q, v) ∈ Y.map entP := hp.mem_iff.1 (hd.mem_iff.2 (by simp))
    obtain ⟨y, hy, he⟩ := List.mem_map.1 hin
    have hyq : y.1.q = q := quV_inj (h.all y hy).2.1 hq.1 (by injection he)
    have h1 := (dropY_perm h.keys hy hyq).map entP
    rw [List.map_cons, he] at h1
    exact (hd.symm.trans (hp.trans h1)).cons_inv
  · rw [dropY_none (fun y hy e => hd (entP y) (hp.mem_iff.2 (List.mem_map_of_mem hy)) (by unfold entP; rw [e]))]
    exact hp
/-- Behind a store at a new key. -/
theorem put_is {x : Ent} (h : CacheIs w p mb room (uses + 1) Y) (hp : l.Perm (Y.map entP)) (hm : MapAt w' Try.prog 94 mb (l ++ [(quV x.q, ansV x (uses + 1))])) (hT : Turned (fun i => i = mb) w w') (hq : qOk x.q) (hlt : ∀ y ∈ Y, y.2 ≤ uses) :
    CacheIs w' p mb room (uses + 1) (Y ++ [(x, uses + 1)]) := by
  refine ⟨h.blk.turned hT (fun e => h.ne e), ⟨_, hm, ?_⟩, ?_, ?_, h.nn, ?_⟩
  · rw [List.map_append]
    exact hp.append_right _
  · rw [List.pairwise_append]
    refine ⟨h.rise, by simp, fun y hy z hz => ?_⟩
    rw [List.mem_singleton.1 hz]
    have := hlt y hy
    show y.2 < uses + 1
    omega
  · intro y hy
    rcases List.mem_append.1 hy with hy | hy
    · exact h.all y hy
    · rw [List.mem_singleton.1 hy]
      exact ⟨Int.le_refl _, hq⟩
  · intro y hy
    rcases List.mem_append.1 hy with hy | hy
    · exact h.pos y hy
    · rw [List.mem_singleton.1 hy]
      exact h.nn
theorem exec_len_raw {P : Program} {W : World} {o : Oper} {a : Act} {t k e : TypeId} {b : Nat} (m : Operand) (hop : o.op = Op.call { callee := Callee.builtin Builtin.len, args := #[m], argTypes := #[t] }) (hm : a.eval m = .map (some b)) (h : MapAt W P k b l) (ht : P.underlying t = some (.map k e)) :
    (execOp a.eval o).run P W = .ok (.value (.int .i64 (l.length : Int))) W := by
  have hrun := h.len o.type ht
  unfold execOp
  simp only [hop, resolve, invoke, builtin, Sem.run_bind, Sem.run_pure, Result.andThen_ok, List.map_toArray, List.map_cons, List.map_nil, hm, hrun]
end

/-- Behind a Put. -/
def PutPost (w : World) (p mb : Nat) (room uses : Int) (Y : List (Ent × Int)) (x : Ent) (e : Ending) (w' : World) : Prop :=
  e = .returned (.int .i64 (putE x.q.who x.told)) ∧ (if putE x.q.who x.told = 0 then CacheIs w' p mb room (uses + 1) (putY room uses Y x) else CacheIs w' p mb room uses Y) ∧ Turned (CFoot p mb) w w'

set_option maxRecDepth 100000 in
set_option maxHeartbeats 4000000 in
theorem put_any {w : World} {p mb : Nat} {room uses : Int} {Y : List (Ent × Int)} (h : CacheIs w p mb room uses Y) (hroom : 1 ≤ room) (hu : uses ≤ 9223372036854775807 ∨ (Y.length : Int) < room) (hY : Y.length ≤ 1000000) (ob op ver turn a till : Int) (A : Option Addr) (c : Nat) (who : List ByteArray)
    (hl : who.length ≤ 1000) (hs : ∀ s ∈ who, s.size ≤ 1000000) (hr : ReadsT Value.string w w.heap.size 1 A who) (ho : i64 ob) (hop : i64 op) :
    Calls Try.prog 16 #[.pointer (some ⟨p, 0, none⟩), .agg #[.int .i64 ob, .int .i64 op, .slice A who.length c, .int .i64 ver, .int .i64 turn], .int .i64 a, .int .i64 till] w (PutPost w p mb room uses Y ⟨⟨ob, op, who⟩, a, ver, turn, till⟩) := by
  have H := Lib.hid h
  obtain ⟨hp0, hm0⟩ := h.lt
  have hB0 : Hid (Blk (w.alloc (.cells #[.int .i64 ob, .int .i64 op, .slice A who.length c, .int .i64 ver, .int .i64 turn] 25)) w.heap.size 25 #[.int .i64 ob, .int .i64 op, .slice A who.length c, .int .i64 ver, .int .i64 turn]) := Lib.hid (Blk.new w _ _)
  have hK0 : Kept w (w.alloc (.cells #[.int .i64 ob, .int .i64 op, .slice A who.length c, .int .i64 ver, .int .i64 turn] 25)) := (Turned.refl _ w).alloc _
  have CA := Lib.hid (asked_any ob op ver turn A c who (w.alloc (.cells #[.int .i64 ob, .int .i64 op, .slice A who.length c, .int .i64 ver, .int .i64 turn] 25)) hl hs (hr.kept hK0))
  have HK0 := Lib.hid hK0
  have hk0 : (w.alloc (.cells #[.int .i64 ob, .int .i64 op, .slice A who.length c, .int .i64 ver, .int .i64 turn] 25)).cell? ⟨w.heap.size, 0, none⟩ = some (.int .i64 ob) := hB0.out.cell 0
  have HPE : Hid (putE who a = if setR who then (if a = 0 ∨ a = 1 ∨ a = 2 then 0 else 1) else 2) := Lib.hid rfl
  have HSZ : Hid ((w.alloc (.cells #[.int .i64 ob, .int .i64 op, .slice A who.length c, .int .i64 ver, .int .i64 turn] 25)).heap.size = w.heap.size + 1) := Lib.hid (by simp)
  have HAQ : Hid (askQ ob op who = if setR who then ⟨ob, op, who⟩ else noQ) := Lib.hid rfl
  clear h hK0 hr hk0
  go_enter Try.func16, Try.ntmps16
  go_wp2_with fail
  refine CA.out.mono ?_
  rintro e w1 ⟨rfl, K1⟩
  have hK1 := HK0.out.to K1
  have hB1 := hB0.out.turned K1 (fun h => h)
  have hs1 : w.heap.size + 1 ≤ w1.heap.size := by have := K1.size; have := HSZ.out; omega
  clear CA HK0 hB0 HSZ K1
  rcases hm : setR who with _ | _
  · rw [hm] at HPE HAQ
    have HE : Hid (putE who a = 2) := HPE.out
    have hBn : Hid (Blk (w1.alloc (.cells #[.int .i64 0, .int .i64 0, .string ⟨#[]⟩, .string ⟨#[]⟩, .string ⟨#[]⟩, .string ⟨#[]⟩, .string ⟨#[]⟩, .string ⟨#[]⟩, .string ⟨#[]⟩, .string ⟨#[]⟩, .string ⟨#[]⟩, .string ⟨#[]⟩, .string ⟨#[]⟩, .string ⟨#[]⟩, .string ⟨#[]⟩, .string ⟨#[]⟩, .string ⟨#[]⟩, .string ⟨#[]⟩] 94)) w1.heap.size 94 (quC noQ)) := Lib.hid (Blk.new w1 _ _)
    generalize askQ ob op who = q
    clear HPE HAQ hm hB1 hs
    go_wp2_with (refine wpList_store_blk rfl (.tmp 9) (.tmp 14) rfl rfl rfl hBn.out (by rw [quC_size]; exact info_qu) (by rw [quC_size, quC_size]) (quC_one _) ?_; intro w3 hq3 hT3 hs3)
    have hT : Turned (fun k => w1.heap.size ≤ k) w1 w3 := ((Turned.refl _ w1).alloc _).then_ hT3 (fun i hi h => by omega)
    have hKw : Kept w w3 := hK1.then_ hT (fun i hi h => by omega)
    go_ret
    exact ⟨by rw [HE.out]; rfl, by rw [HE.out, if_neg (by decide)]; exact H.out.kept hKw, hKw.mono (fun i hi h => h.elim)⟩
  · rw [hm] at HPE HAQ
    have hq0 : askQ ob op who = ⟨ob, op, who⟩ := HAQ.out
    rw [hq0]
    obtain ⟨q, hqe⟩ : ∃ q : Qu, q = ⟨ob, op, who⟩ := ⟨_, rfl⟩
    have hok : qOk q := by
      rw [hqe]
      exact ⟨hm, ho, hop, fun s hx => by have := hs s hx; unfold maxLen; omega⟩
    rw [← hqe]
    have HQE := Lib.hid hqe
    have hBn : Hid (Blk (w1.alloc (.cells #[.int .i64 0, .int .i64 0, .string ⟨#[]⟩, .string ⟨#[]⟩, .string ⟨#[]⟩, .string ⟨#[]⟩, .string ⟨#[]⟩, .string ⟨#[]⟩, .string ⟨#[]⟩, .string ⟨#[]⟩, .string ⟨#[]⟩, .string ⟨#[]⟩, .string ⟨#[]⟩, .string ⟨#[]⟩, .string ⟨#[]⟩, .string ⟨#[]⟩, .string ⟨#[]⟩, .string ⟨#[]⟩] 94)) w1.heap.size 94 (quC noQ)) := Lib.hid (Blk.new w1 _ _)
    clear HAQ hm hq0 hqe hs
    by_cases ha : a = 0 ∨ a = 1 ∨ a = 2
    · have HE : Hid (putE who a = 0) := by have h := HPE.out; rw [if_pos rfl, if_pos ha] at h; exact h
      have hcase : ((a != 0) = false) ∨ ((a != 0) = true ∧ (a != 1) = false) ∨ ((a != 0) = true ∧ (a != 1) = true ∧ (a != 2) = false) := by
        rcases ha with rfl | rfl | rfl
        · exact .inl rfl
        · exact .inr (.inl ⟨rfl, rfl⟩)
        · exact .inr (.inr ⟨rfl, rfl, rfl⟩)
      clear HPE ha
      have HB1 := Lib.hid hB1
      clear hB1
      rcases hcase with d0 | ⟨d0, d1⟩ | ⟨d0, d1, d2⟩
      all_goals
        go_wp2_with (refine wpList_store_blk rfl (.tmp 9) (.tmp 14) rfl rfl rfl hBn.out (by rw [quC_size]; exact info_qu) (by rw [quC_size, quC_size]) (quC_one _) ?_; intro w3 hq3 hT3 hs3)
        have hT13 : Turned (fun k => w1.heap.size ≤ k) w1 w3 := ((Turned.refl _ w1).alloc _).then_ hT3 (fun i hi h => by omega)
        have hKw : Kept w w3 := hK1.then_ hT13 (fun i hi h => by omega)
        have hC3 := H.out.kept hKw
        have hB3 := HB1.out.turned hT13 (by omega)
        have hsz3 : w1.heap.size < w3.heap.size := hq3.lt
        obtain ⟨c0, c1, c2⟩ := hC3.cells
        obtain ⟨l3, hm3, hp3⟩ := hC3.map
        obtain ⟨w4, l4, hrun, hm4, hd4, hT4, hs4⟩ := (hm3.drew).del key_qu Try.underlying88 (isK_qu hok.2) 0
        have hC4 : CacheIs w4 p mb room uses (dropY q Y) := (hC3.kept ((Turned.refl _ w3).drew)).drop hp3 hm4 hT4 hok hd4
        have hplt : p < w3.heap.size := by omega
        have hpm : p ≠ mb := H.out.ne
        have hqm : w1.heap.size ≠ mb := by omega
        have hqp : w1.heap.size ≠ p := by omega
        have hkp : w.heap.size ≠ p := by omega
        have hkm : w.heap.size ≠ mb := by omega
        clear hT3 hs3 hBn hd4 hm3 hp3 c0 c1
        refine wp_region_held_drew (S := fun W => W.cell? ⟨p, 2, none⟩ = some (.map (some mb)) ∧ Blk W w1.heap.size 94 (quC q)) (by kernel_rfl) ⟨c2, hq3⟩ (fun hHeld => ?_)
        refine held_take 0 28 (v := ?_) ⟨_, rfl, rfl, by rfl, ?_⟩ (by kernel_rfl) (by kernel_rfl) (by kernel_rfl) (fun _ _ _ h => h) hHeld ?_
        rotate_left
        · (intro w hSw; (try dsimp only at hSw); go_simp; try with_reducible rfl)
        simp only [Act.put, List.setIfInBounds_toArray, List.set_cons_zero, List.set_cons_succ]
        refine held_take 1 29 (v := ?_) ⟨_, rfl, rfl, by rfl, ?_⟩ (by kernel_rfl) (by kernel_rfl) (by kernel_rfl) (fun _ _ _ h => h) hHeld ?_
        rotate_left
        · (intro w hSw; (try dsimp only at hSw); go_simp; try with_reducible rfl)
        simp only [Act.put, List.setIfInBounds_toArray, List.set_cons_zero, List.set_cons_succ]
        refine held_take 2 30 (v := ?_) ⟨_, rfl, rfl, by rfl, ?_⟩ (by kernel_rfl) (by kernel_rfl) (by kernel_rfl) (fun _ _ _ h => h) hHeld ?_
        rotate_left
        · (intro w hSw; (try dsimp only at hSw); go_simp; try with_reducible rfl)
        simp only [Act.put, List.setIfInBounds_toArray, List.set_cons_zero, List.set_cons_succ]
        refine held_take 3 31 (v := ?_) ⟨_, rfl, rfl, by rfl, ?_⟩ (by kernel_rfl) (by kernel_rfl) (by kernel_rfl) (fun _ _ _ h => h) hHeld ?_
        rotate_left
        · (intro w hSw; (try dsimp only at hSw); go_simp; try with_reducible rfl)
        simp only [Act.put, List.setIfInBounds_toArray, List.set_cons_zero, List.set_cons_succ]
        refine held_take 4 32 ⟨_, rfl, rfl, by rfl, fun W hW => exec_load_blk (.tmp 9) rfl rfl hW.2 Try.underlying94 rfl (by rw [quC_size]; exact info_qu)⟩ (by kernel_rfl) (by kernel_rfl) (by kernel_rfl) (fun _ _ _ h => h) hHeld ?_
        simp only [Act.put, List.setIfInBounds_toArray, List.set_cons_zero, List.set_cons_succ]
        refine wpAnyH_ready (rs := [5]) (by kernel_rfl) (by simp) ?_
        refine AllReadyH.cons (o := _) rfl (fun K hK => ?_) AllReadyH.nil
        rw [if_pos (by rfl)]
        refine wp_delete_run (.tmp 31) (.tmp 32) 88 94 rfl rfl rfl hrun ?_
        rw [put_none (by rfl)]
        refine hK.out _ _ ⟨(hT4.cell (p := ⟨p, 2, none⟩) hplt hpm).trans c2, Blk.turned (Blk.drew hq3) hT4 hqm⟩ (fun hHeld => ?_)
        clear hK K
        refine wpAnyH_done (by kernel_rfl) ?_ _
        have hq4 := Blk.turned (Blk.drew hq3) hT4 hqm
        have hB4 := Blk.turned (Blk.drew hB3) hT4 hkm
        have hT34 : Turned (CFoot p mb) w w4 := ((hKw.mono (S' := CFoot p mb) (fun i hi h => h.elim)).drew).then_ hT4 (fun i hi h => .inr h)
        obtain ⟨d0', d1', d2'⟩ := hC4.cells
        obtain ⟨l5, hm5, hp5⟩ := hC4.map
        have HN5 := Lib.hid (ent_len hp5)
        have hno4 : ∀ y ∈ dropY q Y, y.1.q ≠ q := fun y hy => (dropY_mem.1 hy).2
        have hl5 : l5.length ≤ 1000000 := by
          have h1 := HN5.out
          have h2 : (dropY q Y).length ≤ Y.length := List.length_filter_le _ _
          omega
        clear hm4 hrun hC3 hq3 hB3 hT4 c2 hs4
        by_cases hfull : room ≤ (l5.length : Int)
        · have df : decide (room ≤ (l5.length : Int)) = true := by simpa using hfull
          have HYf : Hid (trimY room (dropY q Y) = (dropY q Y).tail) := by
            show trimY room (dropY q Y) = (dropY q Y).tail
            unfold trimY
            rw [if_pos (by rw [← HN5.out]; exact hfull)]
          have HC4 := Lib.hid hC4
          clear hC4 hp5
          go_wp2_with fail
          refine wp_region_held_drew (S := fun W => W.cell? ⟨p, 2, none⟩ = some (.map (some mb)) ∧ W.cell? ⟨p, 0, none⟩ = some (.int .i64 room) ∧ MapAt W Try.prog 94 mb l5) (by kernel_rfl) ⟨d2', d0', hm5⟩ (fun hHeld => ?_)
          refine held_take 0 33 (v := ?_) ⟨_, rfl, rfl, by rfl, ?_⟩ (by kernel_rfl) (by kernel_rfl) (by kernel_rfl) (fun _ _ _ h => h) hHeld ?_
          rotate_left
          · (intro w hSw; (try dsimp only at hSw); go_simp; try with_reducible rfl)
          simp only [Act.put, List.setIfInBounds_toArray, List.set_cons_zero, List.set_cons_succ]
          refine held_take 1 34 (v := ?_) ⟨_, rfl, rfl, by rfl, ?_⟩ (by kernel_rfl) (by kernel_rfl) (by kernel_rfl) (fun _ _ _ h => h) hHeld ?_
          rotate_left
          · (intro w hSw; (try dsimp only at hSw); go_simp; try with_reducible rfl)
          simp only [Act.put, List.setIfInBounds_toArray, List.set_cons_zero, List.set_cons_succ]
          refine held_take 2 35 (v := ?_) ⟨_, rfl, rfl, by rfl, ?_⟩ (by kernel_rfl) (by kernel_rfl) (by kernel_rfl) (fun _ _ _ h => h) hHeld ?_
          rotate_left
          · (intro w hSw; (try dsimp only at hSw); go_simp; try with_reducible rfl)
          simp only [Act.put, List.setIfInBounds_toArray, List.set_cons_zero, List.set_cons_succ]
          refine held_take 3 36 (v := ?_) ⟨_, rfl, rfl, by rfl, ?_⟩ (by kernel_rfl) (by kernel_rfl) (by kernel_rfl) (fun _ _ _ h => h) hHeld ?_
          rotate_left
          · (intro w hSw; (try dsimp only at hSw); go_simp; try with_reducible rfl)
          simp only [Act.put, List.setIfInBounds_toArray, List.set_cons_zero, List.set_cons_succ]
          refine held_take 4 37 ⟨_, rfl, rfl, by rfl, fun W hW => exec_len_raw (.tmp 36) rfl rfl hW.2.2 Try.underlying88⟩ (by kernel_rfl) (by kernel_rfl) (by kernel_rfl) (fun _ _ _ h => h) hHeld ?_
          simp only [Act.put, List.setIfInBounds_toArray, List.set_cons_zero, List.set_cons_succ]
          refine held_take 5 38 (v := ?_) ⟨_, rfl, rfl, by rfl, ?_⟩ (by kernel_rfl) (by kernel_rfl) (by kernel_rfl) (fun _ _ _ h => h) hHeld ?_
          rotate_left
          · (intro w hSw; (try dsimp only at hSw); go_simp; try with_reducible rfl)
          simp only [Act.put, List.setIfInBounds_toArray, List.set_cons_zero, List.set_cons_succ]
          refine held_take 6 39 (v := ?_) ⟨_, rfl, rfl, by rfl, ?_⟩ (by kernel_rfl) (by kernel_rfl) (by kernel_rfl) (fun _ _ _ h => h) hHeld ?_
          rotate_left
          · (intro w hSw; (try dsimp only at hSw); go_simp; try with_reducible rfl)
          simp only [Act.put, List.setIfInBounds_toArray, List.set_cons_zero, List.set_cons_succ]
          refine held_take 7 40 (v := ?_) ⟨_, rfl, rfl, by rfl, ?_⟩ (by kernel_rfl) (by kernel_rfl) (by kernel_rfl) (fun _ _ _ h => h) hHeld ?_
          rotate_left
          · (intro w hSw; (try dsimp only at hSw); go_simp; try with_reducible rfl)
          simp only [Act.put, List.setIfInBounds_toArray, List.set_cons_zero, List.set_cons_succ]
          refine held_take 8 41 (v := ?_) ⟨_, rfl, rfl, by rfl, ?_⟩ (by kernel_rfl) (by kernel_rfl) (by kernel_rfl) (fun _ _ _ h => h) hHeld ?_
          rotate_left
          · (intro w hSw; (try dsimp only at hSw); go_simp; try with_reducible rfl)
          simp only [Act.put, List.setIfInBounds_toArray, List.set_cons_zero, List.set_cons_succ]
          refine held_take 9 42 (v := ?_) ⟨_, rfl, rfl, by rfl, ?_⟩ (by kernel_rfl) (by kernel_rfl) (by kernel_rfl) (fun _ _ _ h => h) hHeld ?_
          rotate_left
          · (intro w hSw; (try dsimp only at hSw); go_simp; try with_reducible rfl)
          simp only [Act.put, List.setIfInBounds_toArray, List.set_cons_zero, List.set_cons_succ]
          refine wpAnyH_done (by kernel_rfl) ?_ _
          have hu5 : uses ≤ 9223372036854775807 := by
            rcases hu with hu | hu
            · exact hu
            · exfalso
              have h1 := HN5.out
              have h2 : (dropY q Y).length ≤ Y.length := List.length_filter_le _ _
              omega
          rcases hYe : dropY q Y with _ | ⟨y1, Y1⟩
          · exfalso
            have := HN5.out
            rw [hYe, List.length_nil] at this
            omega
          · have hC5 := HC4.out
            rw [hYe] at hC5 HYf hno4
            have HYf2 : Hid (trimY room (dropY q Y) = Y1) := by
              show trimY room (dropY q Y) = Y1
              rw [hYe, HYf.out]
              rfl
            have CP := Lib.hid (push_any (hC5.kept ((Turned.refl _ w4).drew)) hu5)
            clear HYf hC5 HC4 hm5 hfull df hYe
            go_wp2_with fail
            refine CP.out.mono ?_
            rintro e w6 ⟨rfl, hC6, hT6⟩
            have hq6 := Blk.turned (Blk.drew hq4) hT6 hqm
            have hB6 := Blk.turned (Blk.drew hB4) hT6 hkm
            have k3 : w6.cell? ⟨w.heap.size, 3, none⟩ = some (.int .i64 ver) := hB6.cell 3
            have k4 : w6.cell? ⟨w.heap.size, 4, none⟩ = some (.int .i64 turn) := hB6.cell 4
            have e2 := hC6.cells.2.2
            have hk6 : w.heap.size < w6.heap.size := hB6.lt
            have hno7 : ∀ y ∈ Y1, y.1.q ≠ q := fun y hy => hno4 y (by simp [hy])
            have hlt7 : ∀ y ∈ Y1, y.2 ≤ uses := fun y hy => (hC6.all y hy).1
            have hT46 : Turned (CFoot p mb) w w6 := (hT34.drew).then_ hT6 (fun i hi h => .inr h)
            clear CP hq4 hB4 hB6 hT6 hno4 d0' d1' d2'
            go_wp2_with fail
            refine wp_region_held_drew (S := fun W => W.cell? ⟨p, 2, none⟩ = some (.map (some mb)) ∧ Blk W w1.heap.size 94 (quC q) ∧ W.cell? ⟨w.heap.size, 3, none⟩ = some (.int .i64 ver) ∧ W.cell? ⟨w.heap.size, 4, none⟩ = some (.int .i64 turn)) (by kernel_rfl) ⟨e2, hq6, k3, k4⟩ (fun hHeld => ?_)
            refine held_take 0 45 (v := ?_) ⟨_, rfl, rfl, by rfl, ?_⟩ (by kernel_rfl) (by kernel_rfl) (by kernel_rfl) (fun _ _ _ h => h) hHeld ?_
            rotate_left
            · (intro w hSw; (try dsimp only at hSw); go_simp; try with_reducible rfl)
            simp only [Act.put, List.setIfInBounds_toArray, List.set_cons_zero, List.set_cons_succ]
            refine held_take 1 46 (v := ?_) ⟨_, rfl, rfl, by rfl, ?_⟩ (by kernel_rfl) (by kernel_rfl) (by kernel_rfl) (fun _ _ _ h => h) hHeld ?_
            rotate_left
            · (intro w hSw; (try dsimp only at hSw); go_simp; try with_reducible rfl)
            simp only [Act.put, List.setIfInBounds_toArray, List.set_cons_zero, List.set_cons_succ]
            refine held_take 2 47 (v := ?_) ⟨_, rfl, rfl, by rfl, ?_⟩ (by kernel_rfl) (by kernel_rfl) (by kernel_rfl) (fun _ _ _ h => h) hHeld ?_
            rotate_left
            · (intro w hSw; (try dsimp only at hSw); go_simp; try with_reducible rfl)
            simp only [Act.put, List.setIfInBounds_toArray, List.set_cons_zero, List.set_cons_succ]
            refine held_take 3 48 (v := ?_) ⟨_, rfl, rfl, by rfl, ?_⟩ (by kernel_rfl) (by kernel_rfl) (by kernel_rfl) (fun _ _ _ h => h) hHeld ?_
            rotate_left
            · (intro w hSw; (try dsimp only at hSw); go_simp; try with_reducible rfl)
            simp only [Act.put, List.setIfInBounds_toArray, List.set_cons_zero, List.set_cons_succ]
            refine held_take 4 49 ⟨_, rfl, rfl, by rfl, fun W hW => exec_load_blk (.tmp 9) rfl rfl hW.2.1 Try.underlying94 rfl (by rw [quC_size]; exact info_qu)⟩ (by kernel_rfl) (by kernel_rfl) (by kernel_rfl) (fun _ _ _ h => h) hHeld ?_
            simp only [Act.put, List.setIfInBounds_toArray, List.set_cons_zero, List.set_cons_succ]
            refine held_take 5 50 (v := ?_) ⟨_, rfl, rfl, by rfl, ?_⟩ (by kernel_rfl) (by kernel_rfl) (by kernel_rfl) (fun _ _ _ h => h) hHeld ?_
            rotate_left
            · (intro w hSw; (try dsimp only at hSw); go_simp; try with_reducible rfl)
            simp only [Act.put, List.setIfInBounds_toArray, List.set_cons_zero, List.set_cons_succ]
            refine held_take 6 51 (v := ?_) ⟨_, rfl, rfl, by rfl, ?_⟩ (by kernel_rfl) (by kernel_rfl) (by kernel_rfl) (fun _ _ _ h => h) hHeld ?_
            rotate_left
            · (intro w hSw; (try dsimp only at hSw); go_simp; try with_reducible rfl)
            simp only [Act.put, List.setIfInBounds_toArray, List.set_cons_zero, List.set_cons_succ]
            refine held_take 7 52 (v := ?_) ⟨_, rfl, rfl, by rfl, ?_⟩ (by kernel_rfl) (by kernel_rfl) (by kernel_rfl) (fun _ _ _ h => h) hHeld ?_
            rotate_left
            · (intro w hSw; (try dsimp only at hSw); go_simp; try with_reducible rfl)
            simp only [Act.put, List.setIfInBounds_toArray, List.set_cons_zero, List.set_cons_succ]
            refine held_take 8 53 (v := ?_) ⟨_, rfl, rfl, by rfl, ?_⟩ (by kernel_rfl) (by kernel_rfl) (by kernel_rfl) (fun _ _ _ h => h) hHeld ?_
            rotate_left
            · (intro w hSw; (try dsimp only at hSw); go_simp; try with_reducible rfl)
            simp only [Act.put, List.setIfInBounds_toArray, List.set_cons_zero, List.set_cons_succ]
            refine held_take 9 54 (v := ?_) ⟨_, rfl, rfl, by rfl, ?_⟩ (by kernel_rfl) (by kernel_rfl) (by kernel_rfl) (fun _ _ _ h => h) hHeld ?_
            rotate_left
            · (intro w hSw; (try dsimp only at hSw); go_simp; try with_reducible rfl)
            simp only [Act.put, List.setIfInBounds_toArray, List.set_cons_zero, List.set_cons_succ]
            refine held_take 10 55 (v := ?_) ⟨_, rfl, rfl, by rfl, ?_⟩ (by kernel_rfl) (by kernel_rfl) (by kernel_rfl) (fun _ _ _ h => h) hHeld ?_
            rotate_left
            · (intro w hSw; (try dsimp only at hSw); go_simp; try with_reducible rfl)
            simp only [Act.put, List.setIfInBounds_toArray, List.set_cons_zero, List.set_cons_succ]
            refine held_take 11 56 (v := ?_) ⟨_, rfl, rfl, by rfl, ?_⟩ (by kernel_rfl) (by kernel_rfl) (by kernel_rfl) (fun _ _ _ h => h) hHeld ?_
            rotate_left
            · (intro w hSw; (try dsimp only at hSw); go_simp; try with_reducible rfl)
            simp only [Act.put, List.setIfInBounds_toArray, List.set_cons_zero, List.set_cons_succ]
            refine wpAnyH_ready (rs := [12]) (by kernel_rfl) (by simp) ?_
            refine AllReadyH.cons (o := _) rfl (fun K hK => ?_) AllReadyH.nil
            go_simp
            go_at_call 46
            refine (use_any (hC6.kept ((Turned.refl _ w6).drew))).mono ?_
            rintro e w7 ⟨rfl, hC7, hT7⟩
            go_wp2_with fail
            have g2 := hC7.cells.2.2
            have hq7 := Blk.turned (Blk.drew hq6) hT7 hqp
            have j3 := (hT7.cell (p := ⟨w.heap.size, 3, none⟩) hk6 hkp).trans k3
            have j4 := (hT7.cell (p := ⟨w.heap.size, 4, none⟩) hk6 hkp).trans k4
            refine hK.out _ _ ⟨g2, hq7, j3, j4⟩ (fun hHeld => ?_)
            clear hK K
            refine held_take 13 58 (v := ?_) ⟨_, rfl, rfl, by rfl, ?_⟩ (by kernel_rfl) (by kernel_rfl) (by kernel_rfl) (fun _ _ _ h => h) hHeld ?_
            rotate_left
            · (intro w hSw; (try dsimp only at hSw); go_simp; try with_reducible rfl)
            simp only [Act.put, List.setIfInBounds_toArray, List.set_cons_zero, List.set_cons_succ]
            have hk7 := Nat.lt_of_lt_of_le hk6 hT7.size
            obtain ⟨l7, hm7, hp7⟩ := hC7.map
            have hnk7 := no_key hC7 hp7 hok hno7
            obtain ⟨o8, hrun8, hm8⟩ := hm7.put_new key_qu Try.underlying88 (isK_qu hok.2) hnk7 (ansV ⟨q, a, ver, turn, till⟩ (uses + 1))
            have hT8 : Turned (fun i => i = mb) w7 _ := (Turned.refl (fun i => i = mb) w7).setBlock (g := mb) (fun _ => rfl) o8
            have hC8 := put_is (x := ⟨q, a, ver, turn, till⟩) hC7 hp7 hm8 hT8 hok hlt7
            refine wpAnyH_ready (rs := [14]) (by kernel_rfl) (by simp) ?_
            refine AllReadyH.cons (o := _) rfl (fun K hK => ?_) AllReadyH.nil
            rw [if_pos (by rfl)]
            refine wp_mapUpdate_run (.tmp 48) (.tmp 49) (.tmp 58) 88 rfl rfl rfl rfl hrun8 ?_
            rw [put_none (by rfl)]
            refine hK.out _ _ ⟨hC8.cells.2.2, hq7.turned hT8 hqm, (hT8.cell (p := ⟨w.heap.size, 3, none⟩) hk7 hkm).trans j3, (hT8.cell (p := ⟨w.heap.size, 4, none⟩) hk7 hkm).trans j4⟩ (fun hHeld => ?_)
            clear hK K
            refine wpAnyH_done (by kernel_rfl) ?_ _
            go_wp2_with fail
            go_ret
            refine ⟨by rw [HE.out]; rfl, ?_, ?_⟩
            · rw [HE.out, if_pos rfl]
              unfold putY
              rw [← HQE.out, HYf2.out]
              exact hC8
            · exact (((hT46.drew).then_ hT7 (fun i hi h => .inl h)).then_ hT8 (fun i hi h => .inr h))
        · have df : decide (room ≤ (l5.length : Int)) = false := by simpa using hfull
          have HYf2 : Hid (trimY room (dropY q Y) = dropY q Y) := by
            show trimY room (dropY q Y) = dropY q Y
            unfold trimY
            rw [if_neg (by rw [← HN5.out]; exact hfull)]
          have HC4 := Lib.hid hC4
          clear hC4 hp5
          go_wp2_with fail
          refine wp_region_held_drew (S := fun W => W.cell? ⟨p, 2, none⟩ = some (.map (some mb)) ∧ W.cell? ⟨p, 0, none⟩ = some (.int .i64 room) ∧ MapAt W Try.prog 94 mb l5) (by kernel_rfl) ⟨d2', d0', hm5⟩ (fun hHeld => ?_)
          refine held_take 0 33 (v := ?_) ⟨_, rfl, rfl, by rfl, ?_⟩ (by kernel_rfl) (by kernel_rfl) (by kernel_rfl) (fun _ _ _ h => h) hHeld ?_
          rotate_left
          · (intro w hSw; (try dsimp only at hSw); go_simp; try with_reducible rfl)
          simp only [Act.put, List.setIfInBounds_toArray, List.set_cons_zero, List.set_cons_succ]
          refine held_take 1 34 (v := ?_) ⟨_, rfl, rfl, by rfl, ?_⟩ (by kernel_rfl) (by kernel_rfl) (by kernel_rfl) (fun _ _ _ h => h) hHeld ?_
          rotate_left
          · (intro w hSw; (try dsimp only at hSw); go_simp; try with_reducible rfl)
          simp only [Act.put, List.setIfInBounds_toArray, List.set_cons_zero, List.set_cons_succ]
          refine held_take 2 35 (v := ?_) ⟨_, rfl, rfl, by rfl, ?_⟩ (by kernel_rfl) (by kernel_rfl) (by kernel_rfl) (fun _ _ _ h => h) hHeld ?_
          rotate_left
          · (intro w hSw; (try dsimp only at hSw); go_simp; try with_reducible rfl)
          simp only [Act.put, List.setIfInBounds_toArray, List.set_cons_zero, List.set_cons_succ]
          refine held_take 3 36 (v := ?_) ⟨_, rfl, rfl, by rfl, ?_⟩ (by kernel_rfl) (by kernel_rfl) (by kernel_rfl) (fun _ _ _ h => h) hHeld ?_
          rotate_left
          · (intro w hSw; (try dsimp only at hSw); go_simp; try with_reducible rfl)
          simp only [Act.put, List.setIfInBounds_toArray, List.set_cons_zero, List.set_cons_succ]
          refine held_take 4 37 ⟨_, rfl, rfl, by rfl, fun W hW => exec_len_raw (.tmp 36) rfl rfl hW.2.2 Try.underlying88⟩ (by kernel_rfl) (by kernel_rfl) (by kernel_rfl) (fun _ _ _ h => h) hHeld ?_
          simp only [Act.put, List.setIfInBounds_toArray, List.set_cons_zero, List.set_cons_succ]
          refine held_take 5 38 (v := ?_) ⟨_, rfl, rfl, by rfl, ?_⟩ (by kernel_rfl) (by kernel_rfl) (by kernel_rfl) (fun _ _ _ h => h) hHeld ?_
          rotate_left
          · (intro w hSw; (try dsimp only at hSw); go_simp; try with_reducible rfl)
          simp only [Act.put, List.setIfInBounds_toArray, List.set_cons_zero, List.set_cons_succ]
          refine held_take 6 39 (v := ?_) ⟨_, rfl, rfl, by rfl, ?_⟩ (by kernel_rfl) (by kernel_rfl) (by kernel_rfl) (fun _ _ _ h => h) hHeld ?_
          rotate_left
          · (intro w hSw; (try dsimp only at hSw); go_simp; try with_reducible rfl)
          simp only [Act.put, List.setIfInBounds_toArray, List.set_cons_zero, List.set_cons_succ]
          refine held_take 7 40 (v := ?_) ⟨_, rfl, rfl, by rfl, ?_⟩ (by kernel_rfl) (by kernel_rfl) (by kernel_rfl) (fun _ _ _ h => h) hHeld ?_
          rotate_left
          · (intro w hSw; (try dsimp only at hSw); go_simp; try with_reducible rfl)
          simp only [Act.put, List.setIfInBounds_toArray, List.set_cons_zero, List.set_cons_succ]
          refine held_take 8 41 (v := ?_) ⟨_, rfl, rfl, by rfl, ?_⟩ (by kernel_rfl) (by kernel_rfl) (by kernel_rfl) (fun _ _ _ h => h) hHeld ?_
          rotate_left
          · (intro w hSw; (try dsimp only at hSw); go_simp; try with_reducible rfl)
          simp only [Act.put, List.setIfInBounds_toArray, List.set_cons_zero, List.set_cons_succ]
          refine held_take 9 42 (v := ?_) ⟨_, rfl, rfl, by rfl, ?_⟩ (by kernel_rfl) (by kernel_rfl) (by kernel_rfl) (fun _ _ _ h => h) hHeld ?_
          rotate_left
          · (intro w hSw; (try dsimp only at hSw); go_simp; try with_reducible rfl)
          simp only [Act.put, List.setIfInBounds_toArray, List.set_cons_zero, List.set_cons_succ]
          refine wpAnyH_done (by kernel_rfl) ?_ _
          obtain ⟨w6, hw6⟩ : ∃ W, W = w4.drew := ⟨_, rfl⟩
          have hq6 := Blk.drew hq4
          have hB6 := Blk.drew hB4
          have hC6 := HC4.out.kept ((Turned.refl _ w4).drew)
          have hT46 := hT34.drew
          rw [← hw6] at hq6 hB6 hC6 hT46 ⊢
          have k3 : w6.cell? ⟨w.heap.size, 3, none⟩ = some (.int .i64 ver) := hB6.cell 3
          have k4 : w6.cell? ⟨w.heap.size, 4, none⟩ = some (.int .i64 turn) := hB6.cell 4
          have e2 := hC6.cells.2.2
          have hk6 : w.heap.size < w6.heap.size := hB6.lt
          have hno7 := hno4
          have hlt7 : ∀ y ∈ dropY q Y, y.2 ≤ uses := fun y hy => (hC6.all y hy).1
          clear HC4 hq4 hB4 hB6 hno4 d0' d1' d2' hw6 hm5 hfull df
          go_wp2_with fail
          refine wp_region_held_drew (S := fun W => W.cell? ⟨p, 2, none⟩ = some (.map (some mb)) ∧ Blk W w1.heap.size 94 (quC q) ∧ W.cell? ⟨w.heap.size, 3, none⟩ = some (.int .i64 ver) ∧ W.cell? ⟨w.heap.size, 4, none⟩ = some (.int .i64 turn)) (by kernel_rfl) ⟨e2, hq6, k3, k4⟩ (fun hHeld => ?_)
          refine held_take 0 45 (v := ?_) ⟨_, rfl, rfl, by rfl, ?_⟩ (by kernel_rfl) (by kernel_rfl) (by kernel_rfl) (fun _ _ _ h => h) hHeld ?_
          rotate_left
          · (intro w hSw; (try dsimp only at hSw); go_simp; try with_reducible rfl)
          simp only [Act.put, List.setIfInBounds_toArray, List.set_cons_zero, List.set_cons_succ]
          refine held_take 1 46 (v := ?_) ⟨_, rfl, rfl, by rfl, ?_⟩ (by kernel_rfl) (by kernel_rfl) (by kernel_rfl) (fun _ _ _ h => h) hHeld ?_
          rotate_left
          · (intro w hSw; (try dsimp only at hSw); go_simp; try with_reducible rfl)
          simp only [Act.put, List.setIfInBounds_toArray, List.set_cons_zero, List.set_cons_succ]
          refine held_take 2 47 (v := ?_) ⟨_, rfl, rfl, by rfl, ?_⟩ (by kernel_rfl) (by kernel_rfl) (by kernel_rfl) (fun _ _ _ h => h) hHeld ?_
          rotate_left
          · (intro w hSw; (try dsimp only at hSw); go_simp; try with_reducible rfl)
          simp only [Act.put, List.setIfInBounds_toArray, List.set_cons_zero, List.set_cons_succ]
          refine held_take 3 48 (v := ?_) ⟨_, rfl, rfl, by rfl, ?_⟩ (by kernel_rfl) (by kernel_rfl) (by kernel_rfl) (fun _ _ _ h => h) hHeld ?_
          rotate_left
          · (intro w hSw; (try dsimp only at hSw); go_simp; try with_reducible rfl)
          simp only [Act.put, List.setIfInBounds_toArray, List.set_cons_zero, List.set_cons_succ]
          refine held_take 4 49 ⟨_, rfl, rfl, by rfl, fun W hW => exec_load_blk (.tmp 9) rfl rfl hW.2.1 Try.underlying94 rfl (by rw [quC_size]; exact info_qu)⟩ (by kernel_rfl) (by kernel_rfl) (by kernel_rfl) (fun _ _ _ h => h) hHeld ?_
          simp only [Act.put, List.setIfInBounds_toArray, List.set_cons_zero, List.set_cons_succ]
          refine held_take 5 50 (v := ?_) ⟨_, rfl, rfl, by rfl, ?_⟩ (by kernel_rfl) (by kernel_rfl) (by kernel_rfl) (fun _ _ _ h => h) hHeld ?_
          rotate_left
          · (intro w hSw; (try dsimp only at hSw); go_simp; try with_reducible rfl)
          simp only [Act.put, List.setIfInBounds_toArray, List.set_cons_zero, List.set_cons_succ]
          refine held_take 6 51 (v := ?_) ⟨_, rfl, rfl, by rfl, ?_⟩ (by kernel_rfl) (by kernel_rfl) (by kernel_rfl) (fun _ _ _ h => h) hHeld ?_
          rotate_left
          · (intro w hSw; (try dsimp only at hSw); go_simp; try with_reducible rfl)
          simp only [Act.put, List.setIfInBounds_toArray, List.set_cons_zero, List.set_cons_succ]
          refine held_take 7 52 (v := ?_) ⟨_, rfl, rfl, by rfl, ?_⟩ (by kernel_rfl) (by kernel_rfl) (by kernel_rfl) (fun _ _ _ h => h) hHeld ?_
          rotate_left
          · (intro w hSw; (try dsimp only at hSw); go_simp; try with_reducible rfl)
          simp only [Act.put, List.setIfInBounds_toArray, List.set_cons_zero, List.set_cons_succ]
          refine held_take 8 53 (v := ?_) ⟨_, rfl, rfl, by rfl, ?_⟩ (by kernel_rfl) (by kernel_rfl) (by kernel_rfl) (fun _ _ _ h => h) hHeld ?_
          rotate_left
          · (intro w hSw; (try dsimp only at hSw); go_simp; try with_reducible rfl)
          simp only [Act.put, List.setIfInBounds_toArray, List.set_cons_zero, List.set_cons_succ]
          refine held_take 9 54 (v := ?_) ⟨_, rfl, rfl, by rfl, ?_⟩ (by kernel_rfl) (by kernel_rfl) (by kernel_rfl) (fun _ _ _ h => h) hHeld ?_
          rotate_left
          · (intro w hSw; (try dsimp only at hSw); go_simp; try with_reducible rfl)
          simp only [Act.put, List.setIfInBounds_toArray, List.set_cons_zero, List.set_cons_succ]
          refine held_take 10 55 (v := ?_) ⟨_, rfl, rfl, by rfl, ?_⟩ (by kernel_rfl) (by kernel_rfl) (by kernel_rfl) (fun _ _ _ h => h) hHeld ?_
          rotate_left
          · (intro w hSw; (try dsimp only at hSw); go_simp; try with_reducible rfl)
          simp only [Act.put, List.setIfInBounds_toArray, List.set_cons_zero, List.set_cons_succ]
          refine held_take 11 56 (v := ?_) ⟨_, rfl, rfl, by rfl, ?_⟩ (by kernel_rfl) (by kernel_rfl) (by kernel_rfl) (fun _ _ _ h => h) hHeld ?_
          rotate_left
          · (intro w hSw; (try dsimp only at hSw); go_simp; try with_reducible rfl)
          simp only [Act.put, List.setIfInBounds_toArray, List.set_cons_zero, List.set_cons_succ]
          refine wpAnyH_ready (rs := [12]) (by kernel_rfl) (by simp) ?_
          refine AllReadyH.cons (o := _) rfl (fun K hK => ?_) AllReadyH.nil
          go_simp
          go_at_call 46
          refine (use_any (hC6.kept ((Turned.refl _ w6).drew))).mono ?_
          rintro e w7 ⟨rfl, hC7, hT7⟩
          go_wp2_with fail
          have g2 := hC7.cells.2.2
          have hq7 := Blk.turned (Blk.drew hq6) hT7 hqp
          have j3 := (hT7.cell (p := ⟨w.heap.size, 3, none⟩) hk6 hkp).trans k3
          have j4 := (hT7.cell (p := ⟨w.heap.size, 4, none⟩) hk6 hkp).trans k4
          refine hK.out _ _ ⟨g2, hq7, j3, j4⟩ (fun hHeld => ?_)
          clear hK K
          refine held_take 13 58 (v := ?_) ⟨_, rfl, rfl, by rfl, ?_⟩ (by kernel_rfl) (by kernel_rfl) (by kernel_rfl) (fun _ _ _ h => h) hHeld ?_
          rotate_left
          · (intro w hSw; (try dsimp only at hSw); go_simp; try with_reducible rfl)
          simp only [Act.put, List.setIfInBounds_toArray, List.set_cons_zero, List.set_cons_succ]
          have hk7 := Nat.lt_of_lt_of_le hk6 hT7.size
          obtain ⟨l7, hm7, hp7⟩ := hC7.map
          have hnk7 := no_key hC7 hp7 hok hno7
          obtain ⟨o8, hrun8, hm8⟩ := hm7.put_new key_qu Try.underlying88 (isK_qu hok.2) hnk7 (ansV ⟨q, a, ver, turn, till⟩ (uses + 1))
          have hT8 : Turned (fun i => i = mb) w7 _ := (Turned.refl (fun i => i = mb) w7).setBlock (g := mb) (fun _ => rfl) o8
          have hC8 := put_is (x := ⟨q, a, ver, turn, till⟩) hC7 hp7 hm8 hT8 hok hlt7
          refine wpAnyH_ready (rs := [14]) (by kernel_rfl) (by simp) ?_
          refine AllReadyH.cons (o := _) rfl (fun K hK => ?_) AllReadyH.nil
          rw [if_pos (by rfl)]
          refine wp_mapUpdate_run (.tmp 48) (.tmp 49) (.tmp 58) 88 rfl rfl rfl rfl hrun8 ?_
          rw [put_none (by rfl)]
          refine hK.out _ _ ⟨hC8.cells.2.2, hq7.turned hT8 hqm, (hT8.cell (p := ⟨w.heap.size, 3, none⟩) hk7 hkm).trans j3, (hT8.cell (p := ⟨w.heap.size, 4, none⟩) hk7 hkm).trans j4⟩ (fun hHeld => ?_)
          clear hK K
          refine wpAnyH_done (by kernel_rfl) ?_ _
          go_wp2_with fail
          go_ret
          refine ⟨by rw [HE.out]; rfl, ?_, ?_⟩
          · rw [HE.out, if_pos rfl]
            unfold putY
            rw [← HQE.out, HYf2.out]
            exact hC8
          · exact (((hT46.drew).then_ hT7 (fun i hi h => .inl h)).then_ hT8 (fun i hi h => .inr h))
    · have HE : Hid (putE who a = 1) := by have h := HPE.out; rw [if_pos rfl, if_neg ha] at h; exact h
      have d0 : (a != 0) = true := by rw [bne_iff_ne]; omega
      have d1 : (a != 1) = true := by rw [bne_iff_ne]; omega
      have d2 : (a != 2) = true := by rw [bne_iff_ne]; omega
      clear HPE ha hB1
      go_wp2_with (refine wpList_store_blk rfl (.tmp 9) (.tmp 14) rfl rfl rfl hBn.out (by rw [quC_size]; exact info_qu) (by rw [quC_size, quC_size]) (quC_one _) ?_; intro w3 hq3 hT3 hs3)
      have hT : Turned (fun k => w1.heap.size ≤ k) w1 w3 := ((Turned.refl _ w1).alloc _).then_ hT3 (fun i hi h => by omega)
      have hKw : Kept w w3 := hK1.then_ hT (fun i hi h => by omega)
      go_ret
      exact ⟨by rw [HE.out]; rfl, by rw [HE.out, if_neg (by decide)]; exact H.out.kept hKw, hKw.mono (fun i hi h => h.elim)⟩
end Go.Proofs.Ytnicfiochnkjbaa
