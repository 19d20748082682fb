/- The cache's Get. -/
import Derived.Test.YtnicfiochnkjbaaC13
namespace Go.Proofs.Ytnicfiochnkjbaa
open Go.RowKit
open Go.Maps (Keyed)

/-! ### plain terms -/
def findY (q : Qu) (Y : List (Ent × Int)) : Option (Ent × Int) := Y.find? (fun y => quEq y.1.q q)
theorem findY_some {q : Qu} {Y : List (Ent × Int)} {y : Ent × Int} (h : findY q Y = some y) : y ∈ Y ∧ y.1.q = q :=
  ⟨List.mem_of_find?_eq_some h, quEq_iff.1 (List.find?_some (p := fun y : Ent × Int => quEq y.1.q q) h)⟩
theorem findY_none {q : Qu} {Y : List (Ent × Int)} (h : findY q Y = none) : ∀ y ∈ Y, y.1.q ≠ q := fun y hy e => by
  have := List.find?_eq_none.1 h y hy
  exact this (quEq_iff.2 e)
/-- Is an answer still one, for this version and turn, at this time? -/
def fresh (x : Ent) (ver turn t : Int) : Bool := decide (x.ver = ver ∧ x.turn = turn ∧ t < x.till)
/-- What is told. -/
def hitY (q : Qu) (ver turn t : Int) (Y : List (Ent × Int)) : Option Ent :=
  if setR q.who then match findY q Y with
    | some y => if fresh y.1 ver turn t then some y.1 else none
    | none => none
  else none
/-- What is there behind it. -/
def getY (q : Qu) (ver turn t : Int) (uses : Int) (Y : List (Ent × Int)) : List (Ent × Int) :=
  if setR q.who then match findY q Y with
    | some y => if fresh y.1 ver turn t then dropY q Y ++ [(y.1, uses + 1)] else dropY q Y
    | none => Y
  else Y
def getU (q : Qu) (ver turn t : Int) (uses : Int) (Y : List (Ent × Int)) : Int := if (hitY q ver turn t Y).isSome then uses + 1 else uses
def toldR : Option Ent → Int
  | some x => x.told
  | none => 0
def GetPost (w : World) (p mb : Nat) (room uses : Int) (Y : List (Ent × Int)) (q : Qu) (ver turn t : Int) (e : Ending) (w' : World) : Prop :=
  e = .returned (.tuple #[.int .i64 (toldR (hitY q ver turn t Y)), .bool (hitY q ver turn t Y).isSome]) ∧ CacheIs w' p mb room (getU q ver turn t uses Y) (getY q ver turn t uses Y) ∧ Turned (CFoot p mb) w w'
theorem zero_ans : ∀ w : World, (zeroValue 99).run Try.prog w = .ok (.agg #[.int .i64 0, .int .i64 0, .int .i64 0, .int .i64 0, .int .i64 0]) w := fun w => by kernel_rfl
theorem exec_lookup {P : Program} {W : World} {o : Oper} {a : Act} {t : TypeId} {cm : Bool} {vm vx v : Value} (m x : Operand) (hop : o.op = Op.lookup t m x cm) (hm : a.eval m = vm) (hx : a.eval x = vx) (h : (Instr.lookup t vm vx cm).run P W = .ok v W) :
    (execOp a.eval o).run P W = .ok (.value v) W := by
  unfold execOp
  simp only [hop, hm, hx, Sem.run_bind, h, Result.andThen_ok, Sem.run_pure]
section
variable {w w' : World} {p mb : Nat} {room uses : Int} {Y : List (Ent × Int)} {q : Qu} {l l' l0 : List (Value × Value)}
/-- Behind a store over what is there. -/
theorem over_is {y : Ent × Int} (h : CacheIs w p mb room (uses + 1) Y) (hp : l.Perm (Y.map entP)) (hy : y ∈ Y) (hm : MapAt w' Try.prog 94 mb l') (h1 : l.Perm ((quV y.1.q, ansV y.1 y.2) :: l0)) (h2 : l'.Perm ((quV y.1.q, ansV y.1 (uses + 1)) :: l0)) (hT : Turned (fun i => i = mb) w w') (hlt : ∀ z ∈ Y, z.2 ≤ uses) :
    CacheIs w' p mb room (uses + 1) (dropY y.1.q Y ++ [(y.1, uses + 1)]) := by
  have hd := dropY_perm h.keys hy rfl
  have h3 : l0.Perm ((dropY y.1.q Y).map entP) := by
    have := hd.map entP
    rw [List.map_cons] at this
    exact (h1.symm.trans (hp.trans this)).cons_inv
  refine ⟨h.blk.turned hT (fun e => h.ne e), ⟨l', hm, ?_⟩, ?_, ?_, h.nn, ?_⟩
  · rw [List.map_append]
    exact h2.trans ((h3.cons _).trans (List.perm_append_singleton _ _).symm)
  · rw [List.pairwise_append]
    refine ⟨h.rise.sublist (List.filter_sublist ..), by simp, fun z hz z' hz' => ?_⟩
    rw [List.mem_singleton.1 hz']
    have := hlt z (dropY_mem.1 hz).1
    show z.2 < uses + 1
    omega
  · intro z hz
    rcases List.mem_append.1 hz with hz | hz
    · exact h.all z (dropY_mem.1 hz).1
    · rw [List.mem_singleton.1 hz]
      exact ⟨Int.le_refl _, (h.all y hy).2⟩
  · intro z hz
    rcases List.mem_append.1 hz with hz | hz
    · exact h.pos z (dropY_mem.1 hz).1
    · rw [List.mem_singleton.1 hz]
      exact h.nn
end

set_option maxRecDepth 100000 in
set_option maxHeartbeats 4000000 in
theorem get_any {w : World} {p mb : Nat} {room uses : Int} {Y : List (Ent × Int)} (h : CacheIs w p mb room uses Y) (ob op ver turn t : Int) (A : Option Addr) (c : Nat) (who : List ByteArray)
    (hl : who.length ≤ 1000) (hs : ∀ s ∈ who, s.size ≤ 1000000) (hr : ReadsT Value.string w w.heap.size 1 A who) (ho : i64 ob) (hop : i64 op) :
    Calls Try.prog 18 #[.pointer (some ⟨p, 0, none⟩), .agg #[.int .i64 ob, .int .i64 op, .slice A who.length c, .int .i64 ver, .int .i64 turn], .int .i64 t] w (GetPost w p mb room uses Y ⟨ob, op, who⟩ ver turn t) := by
  have H := Lib.hid h
  obtain ⟨hp0, hm0⟩ := h.lt
  have hB0 : Hid (Blk (w.alloc (.cells #[.int .i64 ob, .int .i64 op, .slice A who.length c, .int .i64 ver, .int .i64 turn] 25)) w.heap.size 25 #[.int .i64 ob, .int .i64 op, .slice A who.length c, .int .i64 ver, .int .i64 turn]) := Lib.hid (Blk.new w _ _)
  have hK0 : Kept w (w.alloc (.cells #[.int .i64 ob, .int .i64 op, .slice A who.length c, .int .i64 ver, .int .i64 turn] 25)) := (Turned.refl _ w).alloc _
  have CA := Lib.hid (asked_any ob op ver turn A c who (w.alloc (.cells #[.int .i64 ob, .int .i64 op, .slice A who.length c, .int .i64 ver, .int .i64 turn] 25)) hl hs (hr.kept hK0))
  have HK0 := Lib.hid hK0
  have HSZ : Hid ((w.alloc (.cells #[.int .i64 ob, .int .i64 op, .slice A who.length c, .int .i64 ver, .int .i64 turn] 25)).heap.size = w.heap.size + 1) := Lib.hid (by simp)
  have HAQ : Hid (askQ ob op who = if setR who then ⟨ob, op, who⟩ else noQ) := Lib.hid rfl
  obtain ⟨q, hqe⟩ : ∃ q : Qu, q = ⟨ob, op, who⟩ := ⟨_, rfl⟩
  have HW : Hid (q.who = who) := by show q.who = who; rw [hqe]
  rw [← hqe]
  have HQE := Lib.hid hqe
  clear h hK0 hr hqe
  go_enter Try.func18, Try.ntmps18
  go_wp2_with fail
  refine CA.out.mono ?_
  rintro e w1 ⟨rfl, K1⟩
  have hK1 := HK0.out.to K1
  have hB1 := hB0.out.turned K1 (fun h => h)
  have hs1 : w.heap.size + 1 ≤ w1.heap.size := by have := K1.size; have := HSZ.out; omega
  have hBn : Hid (Blk (w1.alloc (.cells #[.int .i64 0, .int .i64 0, .string ⟨#[]⟩, .string ⟨#[]⟩, .string ⟨#[]⟩, .string ⟨#[]⟩, .string ⟨#[]⟩, .string ⟨#[]⟩, .string ⟨#[]⟩, .string ⟨#[]⟩, .string ⟨#[]⟩, .string ⟨#[]⟩, .string ⟨#[]⟩, .string ⟨#[]⟩, .string ⟨#[]⟩, .string ⟨#[]⟩, .string ⟨#[]⟩, .string ⟨#[]⟩] 94)) w1.heap.size 94 (quC noQ)) := Lib.hid (Blk.new w1 _ _)
  clear CA HK0 hB0 HSZ K1
  rcases hm : setR who with _ | _
  · rw [hm] at HAQ
    have HE : Hid (hitY q ver turn t Y = none ∧ getY q ver turn t uses Y = Y) := by
      unfold hitY getY
      rw [HW.out, hm]
      exact ⟨rfl, rfl⟩
    generalize askQ ob op who = q0
    clear HAQ hm hB1 hs
    go_wp2_with (refine wpList_store_blk rfl (.tmp 8) (.tmp 14) rfl rfl rfl hBn.out (by rw [quC_size]; exact info_qu) (by rw [quC_size, quC_size]) (quC_one _) ?_; intro w3 hq3 hT3 hs3)
    have hT : Turned (fun k => w1.heap.size ≤ k) w1 w3 := ((Turned.refl _ w1).alloc _).then_ hT3 (fun i hi h => by omega)
    have hKw : Kept w w3 := hK1.then_ hT (fun i hi h => by omega)
    go_ret2
    refine ⟨by rw [HE.out.1]; rfl, ?_, hKw.mono (fun i hi h => h.elim)⟩
    unfold getU
    rw [HE.out.1, HE.out.2]
    exact H.out.kept hKw
  · rw [hm] at HAQ
    have hq0 : askQ ob op who = q := by rw [HQE.out]; exact HAQ.out
    rw [hq0]
    have hok : qOk q := by
      rw [HQE.out]
      exact ⟨hm, ho, hop, fun s hx => by have := hs s hx; unfold maxLen; omega⟩
    have HHit : Hid (hitY q ver turn t Y = match findY q Y with | some y => if fresh y.1 ver turn t then some y.1 else none | none => none) := by
      show hitY q ver turn t Y = _
      unfold hitY
      rw [HW.out, hm, if_pos rfl]
    have HGet : Hid (getY q ver turn t uses Y = match findY q Y with | some y => if fresh y.1 ver turn t then dropY q Y ++ [(y.1, uses + 1)] else dropY q Y | none => Y) := by
      show getY q ver turn t uses Y = _
      unfold getY
      rw [HW.out, hm, if_pos rfl]
    clear HAQ hm hq0 hs
    go_wp2_with (refine wpList_store_blk rfl (.tmp 8) (.tmp 14) rfl rfl rfl hBn.out (by rw [quC_size]; exact info_qu) (by rw [quC_size, quC_size]) (quC_one _) ?_; intro w3 hq3 hT3 hs3)
    have hT13 : Turned (fun k => w1.heap.size ≤ k) w1 w3 := ((Turned.refl _ w1).alloc _).then_ hT3 (fun i hi h => by omega)
    have hKw : Kept w w3 := hK1.then_ hT13 (fun i hi h => by omega)
    have hC3 := H.out.kept hKw
    have hB3 := hB1.turned hT13 (by omega)
    have hsz3 : w1.heap.size < w3.heap.size := hq3.lt
    obtain ⟨c0, c1, c2⟩ := hC3.cells
    obtain ⟨l3, hm3, hp3⟩ := hC3.map
    have hplt : p < w3.heap.size := by omega
    have hplt4 : ∀ o, p < (w3.drew.alloc o).heap.size := fun o => by simp; show p < w3.heap.size + 1; omega
    have hpm : p ≠ mb := H.out.ne
    have hqm : w1.heap.size ≠ mb := by omega
    have hpx : p ≠ w3.heap.size := by omega
    have hqx : w1.heap.size ≠ w3.heap.size := by omega
    have hmx : mb ≠ w3.heap.size := by omega
    clear hT3 hs3 hBn c0 c1 hB1
    rcases hf : findY q Y with _ | y
    · rw [hf] at HHit HGet
      have HNO := Lib.hid (no_key hC3 hp3 hok (findY_none hf))
      have HOK := Lib.hid hok
      clear hf hok
      go_wp2_with fail
      refine wp_region_held_drew (S := fun W => W.cell? ⟨p, 2, none⟩ = some (.map (some mb)) ∧ Blk W w1.heap.size 94 (quC q) ∧ MapAt W Try.prog 94 mb l3) (by kernel_rfl) ⟨c2, hq3, hm3⟩ (fun hHeld => ?_)
      refine held_take 0 19 (v := ?_) ⟨_, rfl, rfl, by rfl, ?_⟩ (by kernel_rfl) (by kernel_rfl) (by kernel_rfl) (fun _ _ _ h => h) hHeld ?_
      rotate_left
      · (intro w hSw; (try dsimp only at hSw); go_simp; try with_reducible rfl)
      simp only [Act.put, List.setIfInBounds_toArray, List.set_cons_zero, List.set_cons_succ]
      refine held_take 1 20 (v := ?_) ⟨_, rfl, rfl, by rfl, ?_⟩ (by kernel_rfl) (by kernel_rfl) (by kernel_rfl) (fun _ _ _ h => h) hHeld ?_
      rotate_left
      · (intro w hSw; (try dsimp only at hSw); go_simp; try with_reducible rfl)
      simp only [Act.put, List.setIfInBounds_toArray, List.set_cons_zero, List.set_cons_succ]
      refine held_take 2 21 (v := ?_) ⟨_, rfl, rfl, by rfl, ?_⟩ (by kernel_rfl) (by kernel_rfl) (by kernel_rfl) (fun _ _ _ h => h) hHeld ?_
      rotate_left
      · (intro w hSw; (try dsimp only at hSw); go_simp; try with_reducible rfl)
      simp only [Act.put, List.setIfInBounds_toArray, List.set_cons_zero, List.set_cons_succ]
      refine held_take 3 22 (v := ?_) ⟨_, rfl, rfl, by rfl, ?_⟩ (by kernel_rfl) (by kernel_rfl) (by kernel_rfl) (fun _ _ _ h => h) hHeld ?_
      rotate_left
      · (intro w hSw; (try dsimp only at hSw); go_simp; try with_reducible rfl)
      simp only [Act.put, List.setIfInBounds_toArray, List.set_cons_zero, List.set_cons_succ]
      refine held_take 4 23 ⟨_, rfl, rfl, by rfl, fun W hW => exec_load_blk (.tmp 8) rfl rfl hW.2.1 Try.underlying94 rfl (by rw [quC_size]; exact info_qu)⟩ (by kernel_rfl) (by kernel_rfl) (by kernel_rfl) (fun _ _ _ h => h) hHeld ?_
      simp only [Act.put, List.setIfInBounds_toArray, List.set_cons_zero, List.set_cons_succ]
      refine held_take 5 24 ⟨_, rfl, rfl, by rfl, fun W hW => exec_lookup (.tmp 22) (.tmp 23) rfl rfl rfl (hW.2.2.look_no key_qu Try.underlying88 (zero_ans W) (isK_qu HOK.out.2) HNO.out true)⟩ (by kernel_rfl) (by kernel_rfl) (by kernel_rfl) (fun _ _ _ h => h) hHeld ?_
      simp only [Act.put, List.setIfInBounds_toArray, List.set_cons_zero, List.set_cons_succ]
      refine held_take 6 18 (v := ?_) ⟨_, rfl, rfl, by rfl, ?_⟩ (by kernel_rfl) (by kernel_rfl) (by kernel_rfl) (fun _ _ _ h => h) hHeld ?_
      rotate_left
      · (intro w hSw; (try dsimp only at hSw); go_simp; try with_reducible rfl)
      simp only [Act.put, List.setIfInBounds_toArray, List.set_cons_zero, List.set_cons_succ]
      refine held_take 7 25 (v := ?_) ⟨_, rfl, rfl, by rfl, ?_⟩ (by kernel_rfl) (by kernel_rfl) (by kernel_rfl) (fun _ _ _ h => h) hHeld ?_
      rotate_left
      · (intro w hSw; (try dsimp only at hSw); go_simp; try with_reducible rfl)
      simp only [Act.put, List.setIfInBounds_toArray, List.set_cons_zero, List.set_cons_succ]
      refine held_take 8 26 (v := ?_) ⟨_, rfl, rfl, by rfl, ?_⟩ (by kernel_rfl) (by kernel_rfl) (by kernel_rfl) (fun _ _ _ h => h) hHeld ?_
      rotate_left
      · (intro w hSw; (try dsimp only at hSw); go_simp; try with_reducible rfl)
      simp only [Act.put, List.setIfInBounds_toArray, List.set_cons_zero, List.set_cons_succ]
      refine wpAnyH_ready (rs := [9]) (by kernel_rfl) (by simp) ?_
      refine AllReadyH.cons (o := _) rfl (fun K hK => ?_) AllReadyH.nil
      go_simp
      refine hK.out _ _ ⟨(World.cell?_alloc_lt _ _ _ hplt).trans c2, hq3.alloc _, MapAt.alloc (MapAt.drew hm3) _⟩ (fun hHeld => ?_)
      clear hK K
      refine wpAnyH_ready (rs := [10]) (by kernel_rfl) (by simp) ?_
      refine AllReadyH.cons (o := _) rfl (fun K hK => ?_) AllReadyH.nil
      rw [if_pos (by rfl)]
      refine wp_store_blk (.tmp 10) (.tmp 25) rfl rfl (cs' := #[.int .i64 0, .int .i64 0, .int .i64 0, .int .i64 0, .int .i64 0]) rfl (Blk.new _ _ _) info_ans rfl (by simp [Value.oneCell']) (fun hB4 hT4 hs4 => ?_)
      rw [put_none (by rfl)]
      refine hK.out _ _ ⟨(hT4.cell (p := ⟨p, 2, none⟩) (hplt4 _) hpx).trans ((World.cell?_alloc_lt _ _ _ hplt).trans c2), Blk.turned (Blk.alloc (Blk.drew hq3) _) hT4 hqx, MapAt.turned (MapAt.alloc (MapAt.drew hm3) _) hT4 hmx⟩ (fun hHeld => ?_)
      clear hK K
      refine held_take 11 9 (v := ?_) ⟨_, rfl, rfl, by rfl, ?_⟩ (by kernel_rfl) (by kernel_rfl) (by kernel_rfl) (fun _ _ _ h => h) hHeld ?_
      rotate_left
      · (intro w hSw; (try dsimp only at hSw); go_simp; try with_reducible rfl)
      simp only [Act.put, List.setIfInBounds_toArray, List.set_cons_zero, List.set_cons_succ]
      refine wpAnyH_done (by kernel_rfl) ?_ _
      have hT34 : Turned (fun k => w3.heap.size ≤ k) w3 _ := (((Turned.refl _ w3).drew).alloc _).then_ hT4 (fun i hi h => by show w3.heap.size ≤ i; rw [h]; exact Nat.le_refl _)
      have hKf : Kept w _ := hKw.then_ hT34 (fun i hi h => by have := hKw.size; omega)
      go_wp2_with fail
      go_ret2
      refine ⟨by rw [HHit.out]; rfl, ?_, hKf.mono (fun i hi h => h.elim)⟩
      unfold getU
      rw [HHit.out, HGet.out]
      exact H.out.kept hKf
    · rw [hf] at HHit HGet
      obtain ⟨hy, hyq⟩ := findY_some hf
      obtain ⟨x, u⟩ := y
      have hin : entP (x, u) ∈ l3 := hp3.mem_iff.2 (List.mem_map_of_mem hy)
      simp only at hyq HHit HGet
      have HIN : Hid ((quV q, ansV x u) ∈ l3) := by
        show (quV q, ansV x u) ∈ l3
        rw [← hyq]
        exact hin
      have HY := Lib.hid hy
      have HYQ := Lib.hid hyq
      have HOK := Lib.hid hok
      obtain ⟨q', told, v', t', till⟩ := x
      clear hf hy hyq hin hok
      go_wp2_with fail
      refine wp_region_held_drew (S := fun W => W.cell? ⟨p, 2, none⟩ = some (.map (some mb)) ∧ Blk W w1.heap.size 94 (quC q) ∧ MapAt W Try.prog 94 mb l3) (by kernel_rfl) ⟨c2, hq3, hm3⟩ (fun hHeld => ?_)
      refine held_take 0 19 (v := ?_) ⟨_, rfl, rfl, by rfl, ?_⟩ (by kernel_rfl) (by kernel_rfl) (by kernel_rfl) (fun _ _ _ h => h) hHeld ?_
      rotate_left
      · (intro w hSw; (try dsimp only at hSw); go_simp; try with_reducible rfl)
      simp only [Act.put, List.setIfInBounds_toArray, List.set_cons_zero, List.set_cons_succ]
      refine held_take 1 20 (v := ?_) ⟨_, rfl, rfl, by rfl, ?_⟩ (by kernel_rfl) (by kernel_rfl) (by kernel_rfl) (fun _ _ _ h => h) hHeld ?_
      rotate_left
      · (intro w hSw; (try dsimp only at hSw); go_simp; try with_reducible rfl)
      simp only [Act.put, List.setIfInBounds_toArray, List.set_cons_zero, List.set_cons_succ]
      refine held_take 2 21 (v := ?_) ⟨_, rfl, rfl, by rfl, ?_⟩ (by kernel_rfl) (by kernel_rfl) (by kernel_rfl) (fun _ _ _ h => h) hHeld ?_
      rotate_left
      · (intro w hSw; (try dsimp only at hSw); go_simp; try with_reducible rfl)
      simp only [Act.put, List.setIfInBounds_toArray, List.set_cons_zero, List.set_cons_succ]
      refine held_take 3 22 (v := ?_) ⟨_, rfl, rfl, by rfl, ?_⟩ (by kernel_rfl) (by kernel_rfl) (by kernel_rfl) (fun _ _ _ h => h) hHeld ?_
      rotate_left
      · (intro w hSw; (try dsimp only at hSw); go_simp; try with_reducible rfl)
      simp only [Act.put, List.setIfInBounds_toArray, List.set_cons_zero, List.set_cons_succ]
      refine held_take 4 23 ⟨_, rfl, rfl, by rfl, fun W hW => exec_load_blk (.tmp 8) rfl rfl hW.2.1 Try.underlying94 rfl (by rw [quC_size]; exact info_qu)⟩ (by kernel_rfl) (by kernel_rfl) (by kernel_rfl) (fun _ _ _ h => h) hHeld ?_
      simp only [Act.put, List.setIfInBounds_toArray, List.set_cons_zero, List.set_cons_succ]
      refine held_take 5 24 ⟨_, rfl, rfl, by rfl, fun W hW => exec_lookup (.tmp 22) (.tmp 23) rfl rfl rfl (hW.2.2.look_yes key_qu Try.underlying88 HIN.out true)⟩ (by kernel_rfl) (by kernel_rfl) (by kernel_rfl) (fun _ _ _ h => h) hHeld ?_
      simp only [Act.put, List.setIfInBounds_toArray, List.set_cons_zero, List.set_cons_succ]
      refine held_take 6 18 (v := ?_) ⟨_, rfl, rfl, by rfl, ?_⟩ (by kernel_rfl) (by kernel_rfl) (by kernel_rfl) (fun _ _ _ h => h) hHeld ?_
      rotate_left
      · (intro w hSw; (try dsimp only at hSw); go_simp; try with_reducible rfl)
      simp only [Act.put, List.setIfInBounds_toArray, List.set_cons_zero, List.set_cons_succ]
      refine held_take 7 25 (v := ?_) ⟨_, rfl, rfl, by rfl, ?_⟩ (by kernel_rfl) (by kernel_rfl) (by kernel_rfl) (fun _ _ _ h => h) hHeld ?_
      rotate_left
      · (intro w hSw; (try dsimp only at hSw); go_simp; try with_reducible rfl)
      simp only [Act.put, List.setIfInBounds_toArray, List.set_cons_zero, List.set_cons_succ]
      refine held_take 8 26 (v := ?_) ⟨_, rfl, rfl, by rfl, ?_⟩ (by kernel_rfl) (by kernel_rfl) (by kernel_rfl) (fun _ _ _ h => h) hHeld ?_
      rotate_left
      · (intro w hSw; (try dsimp only at hSw); go_simp; try with_reducible rfl)
      simp only [Act.put, List.setIfInBounds_toArray, List.set_cons_zero, List.set_cons_succ]
      refine wpAnyH_ready (rs := [9]) (by kernel_rfl) (by simp) ?_
      refine AllReadyH.cons (o := _) rfl (fun K hK => ?_) AllReadyH.nil
      go_simp
      refine hK.out _ _ ⟨(World.cell?_alloc_lt _ _ _ hplt).trans c2, hq3.alloc _, MapAt.alloc (MapAt.drew hm3) _⟩ (fun hHeld => ?_)
      clear hK K
      refine wpAnyH_ready (rs := [10]) (by kernel_rfl) (by simp) ?_
      refine AllReadyH.cons (o := _) rfl (fun K hK => ?_) AllReadyH.nil
      rw [if_pos (by rfl)]
      refine wp_store_blk (.tmp 10) (.tmp 25) rfl rfl (cs' := #[.int .i64 told, .int .i64 v', .int .i64 t', .int .i64 till, .int .i64 (wu u)]) rfl (Blk.new _ _ _) info_ans rfl (by simp [Value.oneCell']) (fun hB4 hT4 hs4 => ?_)
      rw [put_none (by rfl)]
      refine hK.out _ _ ⟨(hT4.cell (p := ⟨p, 2, none⟩) (hplt4 _) hpx).trans ((World.cell?_alloc_lt _ _ _ hplt).trans c2), Blk.turned (Blk.alloc (Blk.drew hq3) _) hT4 hqx, MapAt.turned (MapAt.alloc (MapAt.drew hm3) _) hT4 hmx⟩ (fun hHeld => ?_)
      clear hK K
      refine held_take 11 9 (v := ?_) ⟨_, rfl, rfl, by rfl, ?_⟩ (by kernel_rfl) (by kernel_rfl) (by kernel_rfl) (fun _ _ _ h => h) hHeld ?_
      rotate_left
      · (intro w hSw; (try dsimp only at hSw); go_simp; try with_reducible rfl)
      simp only [Act.put, List.setIfInBounds_toArray, List.set_cons_zero, List.set_cons_succ]
      refine wpAnyH_done (by kernel_rfl) ?_ _
      have hT34 : Turned (fun k => w3.heap.size ≤ k) w3 _ := (((Turned.refl _ w3).drew).alloc _).then_ hT4 (fun i hi h => by show w3.heap.size ≤ i; rw [h]; exact Nat.le_refl _)
      generalize World.setRow _ _ _ = w4 at hB4 hT34 ⊢
      have hB4' : Blk w4 w3.heap.size 99 #[.int .i64 told, .int .i64 v', .int .i64 t', .int .i64 till, .int .i64 (wu u)] := hB4
      have hC4 := hC3.turned hT34 (by omega) (by omega)
      have hq4 := hq3.turned hT34 (by omega)
      have hK4 := hB3.turned hT34 (by omega)
      have hKw4 : Kept w w4 := hKw.then_ hT34 (fun i hi h => by have := hKw.size; omega)
      have x1 : w4.cell? ⟨w3.heap.size, 1, none⟩ = some (.int .i64 v') := hB4'.cell 1
      have x2 : w4.cell? ⟨w3.heap.size, 2, none⟩ = some (.int .i64 t') := hB4'.cell 2
      have x3 : w4.cell? ⟨w3.heap.size, 3, none⟩ = some (.int .i64 till) := hB4'.cell 3
      have k3 : w4.cell? ⟨w.heap.size, 3, none⟩ = some (.int .i64 ver) := hK4.cell 3
      have k4 : w4.cell? ⟨w.heap.size, 4, none⟩ = some (.int .i64 turn) := hK4.cell 4
      have hsz4 : w3.heap.size < w4.heap.size := hB4'.lt
      have c4 := hC4.cells.2.2
      obtain ⟨l4, hm4, hp4⟩ := hC4.map
      have hplt4' : p < w4.heap.size := by omega
      clear hHeld hB4 hT4 hs4 hB3 hq3 c2 hm3 hK4 hplt4 hT34 HIN hC3 hp3
      by_cases hfr : v' = ver ∧ t' = turn ∧ t < till
      · obtain ⟨rfl, rfl, hlt⟩ := hfr
        have HHit2 : Hid (hitY q v' t' t Y = some ⟨q', told, v', t', till⟩) := by
          have h := HHit.out
          unfold fresh at h
          rw [decide_eq_true ⟨rfl, rfl, hlt⟩] at h
          exact h
        have HGet2 : Hid (getY q v' t' t uses Y = dropY q Y ++ [(⟨q', told, v', t', till⟩, uses + 1)]) := by
          have h := HGet.out
          unfold fresh at h
          rw [decide_eq_true ⟨rfl, rfl, hlt⟩] at h
          exact h
        have dt : decide (till ≤ t) = false := by rw [decide_eq_false_iff_not]; omega
        have CU := Lib.hid (use_any hC4)
        have HC4 := Lib.hid hC4
        clear HHit HGet hC4 hm4 hp4
        go_wp2_with fail
        refine CU.out.mono ?_
        rintro e w5 ⟨rfl, hC5, hT5⟩
        have hB5 := hB4'.turned hT5 (by omega)
        have hq5 := hq4.turned hT5 (by omega)
        have y4 : w5.cell? ⟨w3.heap.size, 4, none⟩ = some (.int .i64 (wu u)) := hB5.cell 4
        have f4 := hB5.frozen 4
        have hB6 : Blk (w5.setCell ⟨w3.heap.size, 4, none⟩ (.int .i64 (wu (uses + 1)))) w3.heap.size 99 #[.int .i64 told, .int .i64 v', .int .i64 t', .int .i64 till, .int .i64 (wu (uses + 1))] := hB5.set_ 4 (.int .i64 (wu (uses + 1)))
        have hT6 : Turned (fun k => k = w3.heap.size) w5 (w5.setCell ⟨w3.heap.size, 4, none⟩ (.int .i64 (wu (uses + 1)))) := (Turned.refl (fun k => k = w3.heap.size) w5).setCell (p := ⟨w3.heap.size, 4, none⟩) (fun _ => rfl) _
        have HB6 := Lib.hid hB6
        have HT6 := Lib.hid hT6
        clear CU hB4' hq4 c4 x1 x2 x3 k3 k4 hB5 hB6 hT6
        go_wp2_with fail
        have hB6 := HB6.out
        have hT6 := HT6.out
        generalize w5.setCell ⟨w3.heap.size, 4, none⟩ (.int .i64 (wu (uses + 1))) = w6 at hB6 hT6 ⊢
        have hC6 := hC5.turned hT6 (by omega) (by omega)
        have hq6 := hq5.turned hT6 (by omega)
        have e2 := hC6.cells.2.2
        obtain ⟨l6, hm6, hp6⟩ := hC6.map
        have hin6 : (quV q, ansV ⟨q', told, v', t', till⟩ u) ∈ l6 := by
          refine hp6.mem_iff.2 ?_
          have := List.mem_map_of_mem (f := entP) HY.out
          unfold entP at this
          rw [HYQ.out] at this
          exact this
        obtain ⟨w7, l7, l0, hrun7, hm7, hq70, hq71, hT7, hs7⟩ := (hm6.drew).put_over key_qu Try.underlying88 hin6 (ansV ⟨q', told, v', t', till⟩ (uses + 1))
        have hC7 : CacheIs w7 p mb room (uses + 1) (dropY q Y ++ [(⟨q', told, v', t', till⟩, uses + 1)]) := by
          have := over_is (y := (⟨q', told, v', t', till⟩, u)) (hC6.kept ((Turned.refl _ w6).drew)) hp6 HY.out hm7 (by rw [HYQ.out]; exact hq70) (by rw [HYQ.out]; exact hq71) hT7 (fun z hz => (HC4.out.all z hz).1)
          rw [HYQ.out] at this ⊢
          exact this
        have hsz6 : w3.heap.size < w6.heap.size := hB6.lt
        have hxm : w3.heap.size ≠ mb := Ne.symm hmx
        have hp6' : p < w6.heap.size := by omega
        clear y4 f4 HB6 HT6 hC5 hq5 hm6 hp6 hin6 hm7 hq70 hq71
        refine wp_region_held_drew (S := fun W => W.cell? ⟨p, 2, none⟩ = some (.map (some mb)) ∧ Blk W w1.heap.size 94 (quC q) ∧ Blk W w3.heap.size 99 #[.int .i64 told, .int .i64 v', .int .i64 t', .int .i64 till, .int .i64 (wu (uses + 1))]) (by kernel_rfl) ⟨e2, hq6, hB6⟩ (fun hHeld => ?_)
        refine held_take 0 55 (v := ?_) ⟨_, rfl, rfl, by rfl, ?_⟩ (by kernel_rfl) (by kernel_rfl) (by kernel_rfl) (fun _ _ _ h => h) hHeld ?_
        rotate_left
        · (intro w hSw; (try dsimp only at hSw); go_simp; try with_reducible rfl)
        simp only [Act.put, List.setIfInBounds_toArray, List.set_cons_zero, List.set_cons_succ]
        refine held_take 1 56 (v := ?_) ⟨_, rfl, rfl, by rfl, ?_⟩ (by kernel_rfl) (by kernel_rfl) (by kernel_rfl) (fun _ _ _ h => h) hHeld ?_
        rotate_left
        · (intro w hSw; (try dsimp only at hSw); go_simp; try with_reducible rfl)
        simp only [Act.put, List.setIfInBounds_toArray, List.set_cons_zero, List.set_cons_succ]
        refine held_take 2 57 (v := ?_) ⟨_, rfl, rfl, by rfl, ?_⟩ (by kernel_rfl) (by kernel_rfl) (by kernel_rfl) (fun _ _ _ h => h) hHeld ?_
        rotate_left
        · (intro w hSw; (try dsimp only at hSw); go_simp; try with_reducible rfl)
        simp only [Act.put, List.setIfInBounds_toArray, List.set_cons_zero, List.set_cons_succ]
        refine held_take 3 58 (v := ?_) ⟨_, rfl, rfl, by rfl, ?_⟩ (by kernel_rfl) (by kernel_rfl) (by kernel_rfl) (fun _ _ _ h => h) hHeld ?_
        rotate_left
        · (intro w hSw; (try dsimp only at hSw); go_simp; try with_reducible rfl)
        simp only [Act.put, List.setIfInBounds_toArray, List.set_cons_zero, List.set_cons_succ]
        refine held_take 4 59 ⟨_, rfl, rfl, by rfl, fun W hW => exec_load_blk (.tmp 8) rfl rfl hW.2.1 Try.underlying94 rfl (by rw [quC_size]; exact info_qu)⟩ (by kernel_rfl) (by kernel_rfl) (by kernel_rfl) (fun _ _ _ h => h) hHeld ?_
        simp only [Act.put, List.setIfInBounds_toArray, List.set_cons_zero, List.set_cons_succ]
        refine held_take 5 60 ⟨_, rfl, rfl, by rfl, fun W hW => exec_load_blk (.tmp 10) rfl rfl hW.2.2 Try.underlying99 rfl info_ans⟩ (by kernel_rfl) (by kernel_rfl) (by kernel_rfl) (fun _ _ _ h => h) hHeld ?_
        simp only [Act.put, List.setIfInBounds_toArray, List.set_cons_zero, List.set_cons_succ]
        refine wpAnyH_ready (rs := [6]) (by kernel_rfl) (by simp) ?_
        refine AllReadyH.cons (o := _) rfl (fun K hK => ?_) AllReadyH.nil
        rw [if_pos (by rfl)]
        refine wp_mapUpdate_run (.tmp 58) (.tmp 59) (.tmp 60) 88 rfl rfl rfl rfl hrun7 ?_
        rw [put_none (by rfl)]
        refine hK.out _ _ ⟨(hT7.cell (p := ⟨p, 2, none⟩) hp6' hpm).trans e2, Blk.turned (Blk.drew hq6) hT7 hqm, Blk.turned (Blk.drew hB6) hT7 hxm⟩ (fun hHeld => ?_)
        clear hK K
        refine wpAnyH_done (by kernel_rfl) ?_ _
        have z0 : w7.cell? ⟨w3.heap.size, 0, none⟩ = some (.int .i64 told) := (hT7.cell (p := ⟨w3.heap.size, 0, none⟩) hsz6 hxm).trans (hB6.cell 0)
        go_wp2_with fail
        go_ret2
        refine ⟨by rw [HHit2.out]; rfl, ?_, ?_⟩
        · unfold getU
          rw [HHit2.out, HGet2.out]
          exact hC7
        · exact ((((hKw4.mono (S' := CFoot p mb) (fun i hi h => h.elim)).then_ hT5 (fun i hi h => .inl h)).then_ hT6 (fun i hi h => by omega)).drew).then_ hT7 (fun i hi h => .inr h)
      · have HHit2 : Hid (hitY q ver turn t Y = none) := by
          have h := HHit.out
          unfold fresh at h
          rw [decide_eq_false hfr] at h
          exact h
        have HGet2 : Hid (getY q ver turn t uses Y = dropY q Y) := by
          have h := HGet.out
          unfold fresh at h
          rw [decide_eq_false hfr] at h
          exact h
        have hcase : (v' != ver) = true ∨ ((v' != ver) = false ∧ (t' != turn) = true) ∨ ((v' != ver) = false ∧ (t' != turn) = false ∧ decide (till ≤ t) = true) := by
          by_cases h1 : v' = ver
          · by_cases h2 : t' = turn
            · refine .inr (.inr ⟨by simp [h1], by simp [h2], ?_⟩)
              rw [decide_eq_true_eq]
              by_cases h3 : t < till
              · exact absurd ⟨h1, h2, h3⟩ hfr
              · omega
            · exact .inr (.inl ⟨by simp [h1], by simpa using h2⟩)
          · exact .inl (by simpa using h1)
        obtain ⟨w5, l5, hrun, hm5, hd5, hT5, hs5⟩ := (hm4.drew).del key_qu Try.underlying88 (isK_qu HOK.out.2) 0
        have hC5 : CacheIs w5 p mb room uses (dropY q Y) := (hC4.kept ((Turned.refl _ w4).drew)).drop hp4 hm5 hT5 HOK.out hd5
        have HC5 := Lib.hid hC5
        clear HHit HGet hfr hC4 hm4 hp4 hm5 hd5 hC5 hB4'
        rcases hcase with b1 | ⟨b1, b2⟩ | ⟨b1, b2, b3⟩
        all_goals
          go_wp2_with fail
          refine wp_region_held_drew (S := fun W => W.cell? ⟨p, 2, none⟩ = some (.map (some mb)) ∧ Blk W w1.heap.size 94 (quC q)) (by kernel_rfl) ⟨c4, hq4⟩ (fun hHeld => ?_)
          refine held_take 0 47 (v := ?_) ⟨_, rfl, rfl, by rfl, ?_⟩ (by kernel_rfl) (by kernel_rfl) (by kernel_rfl) (fun _ _ _ h => h) hHeld ?_
          rotate_left
          · (intro w hSw; (try dsimp only at hSw); go_simp; try with_reducible rfl)
          simp only [Act.put, List.setIfInBounds_toArray, List.set_cons_zero, List.set_cons_succ]
          refine held_take 1 48 (v := ?_) ⟨_, rfl, rfl, by rfl, ?_⟩ (by kernel_rfl) (by kernel_rfl) (by kernel_rfl) (fun _ _ _ h => h) hHeld ?_
          rotate_left
          · (intro w hSw; (try dsimp only at hSw); go_simp; try with_reducible rfl)
          simp only [Act.put, List.setIfInBounds_toArray, List.set_cons_zero, List.set_cons_succ]
          refine held_take 2 49 (v := ?_) ⟨_, rfl, rfl, by rfl, ?_⟩ (by kernel_rfl) (by kernel_rfl) (by kernel_rfl) (fun _ _ _ h => h) hHeld ?_
          rotate_left
          · (intro w hSw; (try dsimp only at hSw); go_simp; try with_reducible rfl)
          simp only [Act.put, List.setIfInBounds_toArray, List.set_cons_zero, List.set_cons_succ]
          refine held_take 3 50 (v := ?_) ⟨_, rfl, rfl, by rfl, ?_⟩ (by kernel_rfl) (by kernel_rfl) (by kernel_rfl) (fun _ _ _ h => h) hHeld ?_
          rotate_left
          · (intro w hSw; (try dsimp only at hSw); go_simp; try with_reducible rfl)
          simp only [Act.put, List.setIfInBounds_toArray, List.set_cons_zero, List.set_cons_succ]
          refine held_take 4 51 ⟨_, rfl, rfl, by rfl, fun W hW => exec_load_blk (.tmp 8) rfl rfl hW.2 Try.underlying94 rfl (by rw [quC_size]; exact info_qu)⟩ (by kernel_rfl) (by kernel_rfl) (by kernel_rfl) (fun _ _ _ h => h) hHeld ?_
          simp only [Act.put, List.setIfInBounds_toArray, List.set_cons_zero, List.set_cons_succ]
          refine wpAnyH_ready (rs := [5]) (by kernel_rfl) (by simp) ?_
          refine AllReadyH.cons (o := _) rfl (fun K hK => ?_) AllReadyH.nil
          rw [if_pos (by rfl)]
          refine wp_delete_run (.tmp 50) (.tmp 51) 88 94 rfl rfl rfl hrun ?_
          rw [put_none (by rfl)]
          refine hK.out _ _ ⟨(hT5.cell (p := ⟨p, 2, none⟩) hplt4' hpm).trans c4, Blk.turned (Blk.drew hq4) hT5 hqm⟩ (fun hHeld => ?_)
          clear hK K
          refine wpAnyH_done (by kernel_rfl) ?_ _
          go_wp2_with fail
          go_ret2
          refine ⟨by rw [HHit2.out]; rfl, ?_, ?_⟩
          · unfold getU
            rw [HHit2.out, HGet2.out]
            exact HC5.out
          · exact ((hKw4.mono (S' := CFoot p mb) (fun i hi h => h.elim)).drew).then_ hT5 (fun i hi h => .inr h)
end Go.Proofs.Ytnicfiochnkjbaa
