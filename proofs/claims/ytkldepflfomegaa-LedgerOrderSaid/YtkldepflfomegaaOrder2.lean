/- The law LedgerOrder: the walk. -/
import Derived.Test.YtkldepflfomegaaOrder
namespace Go.Proofs.Ytkldepflfomegaa
open Go.RowKit
open Go.Maps (Keyed)

theorem xor_all : ∀ n : Fin 256, 8192 ≤ bits .xor .u16 (8192 + (n.val : Int)) 1 ∧ bits .xor .u16 (8192 + (n.val : Int)) 1 ≤ 8447 ∧ bits .xor .u16 (8192 + (n.val : Int)) 1 ≠ 8192 + (n.val : Int) := by decide +kernel
theorem xor_ok (key : Int) (h0 : 0 ≤ key) (h1 : key ≤ 255) : 8192 ≤ bits .xor .u16 (8192 + key) 1 ∧ bits .xor .u16 (8192 + key) 1 ≤ 8447 ∧ bits .xor .u16 (8192 + key) 1 ≠ 8192 + key := by
  obtain ⟨n, rfl⟩ := Int.eq_ofNat_of_zero_le h0
  exact xor_all ⟨n, by omega⟩

set_option maxRecDepth 100000 in
set_option maxHeartbeats 4000000 in
theorem order_walk (A B : Option Addr) (c d : Nat) (key : Int) (l : List ByteArray) (bs : List Bool) (w : World) (hl : l.length ≤ 9223372036854775807) (_hlb : bs.length ≤ 9223372036854775807) (hk0 : 0 ≤ key) (hk1 : key ≤ 255)
    (hr : ReadsT .string w w.heap.size 1 A l) (hrb : ReadsT .bool w w.heap.size 1 B bs) :
    Calls Try.prog 5 #[.int .u8 key, .slice A l.length c, .slice B bs.length d] w fun e w' => e = .returned (.bool true) ∧ Kept w w' := by
  obtain ⟨i0, hi0, hz0, hz1, hz2⟩ := info_parts info_string
  go_enter Try.func5, Try.ntmps5
  go_wp2_with fail
  refine (awake_any _).mono ?_
  rintro e w1 ⟨rfl, hK1⟩
  go_wp2_with fail
  refine (new_any _).mono ?_
  rintro e w2 ⟨rfl, hB0, hK2, hs2⟩
  have hT2 : Turned (From w.heap.size) w w2 := (hK1.then_ hK2 (fun _ _ h => h)).mono (fun _ _ h => h.elim)
  have hs1 := hK1.size
  have hM0 : OrderAt w (w2.alloc (.cells #[] 9)) w1.heap.size [] [] (.slice (some ⟨w2.heap.size, 0, none⟩) 0 0) := by
    refine ⟨fun k => k = w1.heap.size, hB0.kept ((Turned.refl _ w2).alloc _), ⟨rfl, .inr ⟨w2.heap.size, 0, #[], rfl, by omega, heap_alloc_new w2 _, Nat.le_refl _, by simp [maxLen], rfl, rfl⟩⟩, ?_, hT2.alloc _⟩
    rintro k rfl
    exact ⟨hs1, by simp; omega, by simp [Value.ownBlock]; omega⟩
  have Hs2 := Lib.hid hs2
  clear hs2 hB0 hK2 hT2
  go_wp2_with fail
  go_loopg [9, 10] l.length (fun gk v i wr => ∃ (j : Nat) (S : List Sig) (ws : List ByteArray), j + gk = l.length ∧ j ≤ 100 ∧ i = .int .i64 j ∧ S.length ≤ 2 * j ∧ ws.length ≤ j ∧ bodiesOf S (8192 + key) = ws ∧ OrderAt w wr w1.heap.size S ws v)
  case atStart => exact ⟨0, [], [], Nat.zero_add _, by omega, rfl, by simp, by simp, rfl, hM0⟩
  case round =>
    obtain ⟨j, S, ws, hj, hj2, rfl, hSl, hwl, hbo, hM⟩ := hrel
    clear hM0
    have HBO := Lib.hid hbo
    clear hbo
    have hM' := hM
    obtain ⟨F, q1, q2, q4, q5⟩ := hM'
    have hsz := q5.size
    obtain ⟨A6, c6, hv6⟩ := own_slice q2
    subst hv6
    have hbk : ∀ k, k < w.heap.size → wr.heap[k]? = w.heap[k]? := fun k hk => q5.block k hk (fun h => absurd h (by unfold From; omega))
    by_cases hjl : j < l.length ∧ j < 100
    · obtain ⟨hjl, hj3⟩ := hjl
      obtain ⟨b, o, rfl, hb, hc⟩ := (hr.below (w' := wr) hbk) j hjl
      obtain ⟨x, hx⟩ : ∃ x, x = l[j] := ⟨_, rfl⟩
      rw [← hx] at hc
      have c0 : wr.cell? ⟨b, o + j, none⟩ = some (.string x) := by simpa [Value.cells] using hc 0 (by omega)
      have hi3 : (j : Int) < 100 := by omega
      clear hc hx hr q1 q2 q4
      by_cases hs : 200 < x.size
      · have hgs : decide (200 < (x.size : Int)) = true := by simp; omega
        clear hbk hM
        go_wp2_with fail
        go_ret
        exact ⟨rfl, q5.mono (fun k hk h => by unfold From at h; omega)⟩
      · have hgs : decide (200 < (x.size : Int)) = false := by simp; omega
        have hsz4 : x.size ≤ maxLen := by unfold maxLen; omega
        clear q5
        by_cases hbl : j < bs.length
        · obtain ⟨b1, o1, rfl, hb1, hc1⟩ := (hrb.below (w' := wr) hbk) j hbl
          obtain ⟨y, hy⟩ : ∃ y, y = bs[j] := ⟨_, rfl⟩
          rw [← hy] at hc1
          have c1 : wr.cell? ⟨b1, o1 + j, none⟩ = some (.bool y) := by simpa [Value.cells] using hc1 0 (by omega)
          clear hc1 hy hrb hbk
          cases y
          · obtain ⟨S4, hS4⟩ : ∃ S4, S4 = S := ⟨_, rfl⟩
            subst hS4
            obtain ⟨w4, hw4⟩ : ∃ w4, w4 = wr := ⟨_, rfl⟩
            have hM4 := hM
            rw [← hw4] at hM4
            have HB4 := HBO
            clear hM HBO
            go_wp2_with fail
            rw [← hw4]
            clear hw4
            refine (order_sign hM4 ⟨by omega, by omega⟩ (by omega) hsz4 (by omega)).mono ?_
            rintro e w5 ⟨rfl, hM5⟩
            have HB5 := Lib.hid ((sign_bodies (S := S4) (s := x) (show (8192 + key) / 8192 = 1 by omega) (by omega)).trans (by rw [HB4.out]))
            have hS5 := signR_len S4 (8192 + key) x
            generalize (signR S4 (8192 + key) x).2 = S5 at hM5 HB5 hS5
            clear hM4 HB4
            go_wp2_with fail
            have hrd := hM5.reads
            obtain ⟨g1, rfl⟩ : ∃ g1 : Nat, g1 = gk := ⟨_, rfl⟩
            obtain ⟨wo, rfl⟩ : ∃ wo : World, wo = wr := ⟨_, rfl⟩
            go_loopg [12, 67] ws.length (fun g2 kn i2 wr2 => ∃ i : Nat, i + g2 = ws.length ∧ i2 = .int .i64 i ∧ kn = .bool (hasB x (ws.take i)) ∧ w5 = wr2)
            case atStart => exact ⟨0, Nat.zero_add _, rfl, rfl, rfl⟩
            case round =>
              obtain ⟨i, hi, rfl, rfl, rfl⟩ := hrel
              by_cases hil : i < ws.length
              · obtain ⟨b2, o2, rfl, hb2, hc2⟩ := hrd i hil
                obtain ⟨y, hy⟩ : ∃ y, y = ws[i] := ⟨_, rfl⟩
                have HS := Lib.hid (hasB_take_succ' (k := x) hil)
                rw [← hy] at hc2 HS
                have d0 : w5.cell? ⟨b2, o2 + i, none⟩ = some (.string y) := by simpa [Value.cells] using hc2 0 (by omega)
                clear hc2 hy hrd hM5
                generalize hh : hasB x (ws.take i) = kn
                rw [hh] at HS
                clear hh
                cases kn
                all_goals
                  go_wp2_with fail
                  go_roundg (gk - 1)
                  case measure => omega
                  case rel => exact ⟨i + 1, by omega, by go_num, by rw [HS.out]; rfl, rfl⟩
              · have hii : i = ws.length := by omega
                subst hii
                rw [List.take_length]
                clear hrd
                obtain ⟨bk, hbk⟩ : ∃ b, hasB x ws = b := ⟨_, rfl⟩
                rw [hbk]
                have HN : Hid (newB ws x = if bk then ws else ws ++ [x]) := by
                  show newB ws x = _
                  unfold newB
                  rw [hbk]
                clear hbk
                rw [HN.out] at HB5
                cases bk
                · have hsz := hM5.size
                  go_wp2_with (at_builtin; obtain ⟨F9, _q1, q2, _q3, _q4⟩ := hM5; refine wpList_append_lies _ (by rfl) _ _ _ (by rfl) w.heap.size 9 i0 _ 1 16 Try.underlying53 hi0 hz0 hz1 hz2 rfl (by omega) (.slice A6 ws.length c6) _ _ (by rfl) (q2.alloc _) ⟨w5.heap.size, 0, none⟩ 1 1 [.string x] (by rfl) (by rfl) (World.news_of_block (cs := #[.string x]) (t := 9) (fr := (0, 0)) (heap_alloc_new w5 _)) (by simp [Value.oneCell']) (by omega) (by unfold maxLen; omega) (by omega) (by simp; omega) (w5.heap.size + 1) (by simp) ?_; intro gg c5 w7 O3 hg3 hat hlt3; have hM7 := order_append ⟨F9, _q1, q2, _q3, _q4⟩ hg3 O3 hat)
                  go_roundg (g1 - 1)
                  case measure => omega
                  case rel => exact ⟨j + 1, S5, ws ++ [x], by omega, by omega, by go_num, by omega, by simp; omega, HB5.out, hM7⟩
                · go_wp2_with fail
                  go_roundg (g1 - 1)
                  case measure => omega
                  case rel => exact ⟨j + 1, S5, ws, by omega, by omega, by go_num, by omega, by omega, HB5.out, hM5⟩
          · obtain ⟨xo1, xo2, xo3⟩ := xor_ok key hk0 hk1
            have HB4 := Lib.hid ((sign_other (S := S) (s := x) xo3).trans HBO.out)
            have C := Lib.hid (order_sign (k := bits .xor .u16 (8192 + key) 1) hM ⟨by omega, by omega⟩ (by omega) hsz4 (by omega))
            clear hM HBO
            go_wp2_with fail
            refine C.out.mono ?_
            rintro e w4 ⟨rfl, hM4⟩
            have hS4 := signR_len S (bits .xor .u16 (8192 + key) 1) x
            generalize (signR S (bits .xor .u16 (8192 + key) 1) x).2 = S4 at hM4 HB4 hS4
            clear C c0 c1 xo1 xo2 xo3
            go_wp2_with fail
            refine (order_sign hM4 ⟨by omega, by omega⟩ (by omega) hsz4 (by omega)).mono ?_
            rintro e w5 ⟨rfl, hM5⟩
            have HB5 := Lib.hid ((sign_bodies (S := S4) (s := x) (show (8192 + key) / 8192 = 1 by omega) (by omega)).trans (by rw [HB4.out]))
            have hS5 := signR_len S4 (8192 + key) x
            generalize (signR S4 (8192 + key) x).2 = S5 at hM5 HB5 hS5
            clear hM4 HB4
            go_wp2_with fail
            have hrd := hM5.reads
            obtain ⟨g1, rfl⟩ : ∃ g1 : Nat, g1 = gk := ⟨_, rfl⟩
            obtain ⟨wo, rfl⟩ : ∃ wo : World, wo = wr := ⟨_, rfl⟩
            go_loopg [12, 67] ws.length (fun g2 kn i2 wr2 => ∃ i : Nat, i + g2 = ws.length ∧ i2 = .int .i64 i ∧ kn = .bool (hasB x (ws.take i)) ∧ w5 = wr2)
            case atStart => exact ⟨0, Nat.zero_add _, rfl, rfl, rfl⟩
            case round =>
              obtain ⟨i, hi, rfl, rfl, rfl⟩ := hrel
              by_cases hil : i < ws.length
              · obtain ⟨b2, o2, rfl, hb2, hc2⟩ := hrd i hil
                obtain ⟨y, hy⟩ : ∃ y, y = ws[i] := ⟨_, rfl⟩
                have HS := Lib.hid (hasB_take_succ' (k := x) hil)
                rw [← hy] at hc2 HS
                have d0 : w5.cell? ⟨b2, o2 + i, none⟩ = some (.string y) := by simpa [Value.cells] using hc2 0 (by omega)
                clear hc2 hy hrd hM5
                generalize hh : hasB x (ws.take i) = kn
                rw [hh] at HS
                clear hh
                cases kn
                all_goals
                  go_wp2_with fail
                  go_roundg (gk - 1)
                  case measure => omega
                  case rel => exact ⟨i + 1, by omega, by go_num, by rw [HS.out]; rfl, rfl⟩
              · have hii : i = ws.length := by omega
                subst hii
                rw [List.take_length]
                clear hrd
                obtain ⟨bk, hbk⟩ : ∃ b, hasB x ws = b := ⟨_, rfl⟩
                rw [hbk]
                have HN : Hid (newB ws x = if bk then ws else ws ++ [x]) := by
                  show newB ws x = _
                  unfold newB
                  rw [hbk]
                clear hbk
                rw [HN.out] at HB5
                cases bk
                · have hsz := hM5.size
                  go_wp2_with (at_builtin; obtain ⟨F9, _q1, q2, _q3, _q4⟩ := hM5; refine wpList_append_lies _ (by rfl) _ _ _ (by rfl) w.heap.size 9 i0 _ 1 16 Try.underlying53 hi0 hz0 hz1 hz2 rfl (by omega) (.slice A6 ws.length c6) _ _ (by rfl) (q2.alloc _) ⟨w5.heap.size, 0, none⟩ 1 1 [.string x] (by rfl) (by rfl) (World.news_of_block (cs := #[.string x]) (t := 9) (fr := (0, 0)) (heap_alloc_new w5 _)) (by simp [Value.oneCell']) (by omega) (by unfold maxLen; omega) (by omega) (by simp; omega) (w5.heap.size + 1) (by simp) ?_; intro gg c5 w7 O3 hg3 hat hlt3; have hM7 := order_append ⟨F9, _q1, q2, _q3, _q4⟩ hg3 O3 hat)
                  go_roundg (g1 - 1)
                  case measure => omega
                  case rel => exact ⟨j + 1, S5, ws ++ [x], by omega, by omega, by go_num, by omega, by simp; omega, HB5.out, hM7⟩
                · go_wp2_with fail
                  go_roundg (g1 - 1)
                  case measure => omega
                  case rel => exact ⟨j + 1, S5, ws, by omega, by omega, by go_num, by omega, by omega, HB5.out, hM5⟩
        · have hbl' : bs.length ≤ j := by omega
          clear hrb hbk hbl
          obtain ⟨S4, hS4⟩ : ∃ S4, S4 = S := ⟨_, rfl⟩
          subst hS4
          obtain ⟨w4, hw4⟩ : ∃ w4, w4 = wr := ⟨_, rfl⟩
          have hM4 := hM
          rw [← hw4] at hM4
          have HB4 := HBO
          clear hM HBO
          go_wp2_with fail
          rw [← hw4]
          clear hw4
          refine (order_sign hM4 ⟨by omega, by omega⟩ (by omega) hsz4 (by omega)).mono ?_
          rintro e w5 ⟨rfl, hM5⟩
          have HB5 := Lib.hid ((sign_bodies (S := S4) (s := x) (show (8192 + key) / 8192 = 1 by omega) (by omega)).trans (by rw [HB4.out]))
          have hS5 := signR_len S4 (8192 + key) x
          generalize (signR S4 (8192 + key) x).2 = S5 at hM5 HB5 hS5
          clear hM4 HB4
          go_wp2_with fail
          have hrd := hM5.reads
          obtain ⟨g1, rfl⟩ : ∃ g1 : Nat, g1 = gk := ⟨_, rfl⟩
          obtain ⟨wo, rfl⟩ : ∃ wo : World, wo = wr := ⟨_, rfl⟩
          go_loopg [12, 67] ws.length (fun g2 kn i2 wr2 => ∃ i : Nat, i + g2 = ws.length ∧ i2 = .int .i64 i ∧ kn = .bool (hasB x (ws.take i)) ∧ w5 = wr2)
          case atStart => exact ⟨0, Nat.zero_add _, rfl, rfl, rfl⟩
          case round =>
            obtain ⟨i, hi, rfl, rfl, rfl⟩ := hrel
            by_cases hil : i < ws.length
            · obtain ⟨b2, o2, rfl, hb2, hc2⟩ := hrd i hil
              obtain ⟨y, hy⟩ : ∃ y, y = ws[i] := ⟨_, rfl⟩
              have HS := Lib.hid (hasB_take_succ' (k := x) hil)
              rw [← hy] at hc2 HS
              have d0 : w5.cell? ⟨b2, o2 + i, none⟩ = some (.string y) := by simpa [Value.cells] using hc2 0 (by omega)
              clear hc2 hy hrd hM5
              generalize hh : hasB x (ws.take i) = kn
              rw [hh] at HS
              clear hh
              cases kn
              all_goals
                go_wp2_with fail
                go_roundg (gk - 1)
                case measure => omega
                case rel => exact ⟨i + 1, by omega, by go_num, by rw [HS.out]; rfl, rfl⟩
            · have hii : i = ws.length := by omega
              subst hii
              rw [List.take_length]
              clear hrd
              obtain ⟨bk, hbk⟩ : ∃ b, hasB x ws = b := ⟨_, rfl⟩
              rw [hbk]
              have HN : Hid (newB ws x = if bk then ws else ws ++ [x]) := by
                show newB ws x = _
                unfold newB
                rw [hbk]
              clear hbk
              rw [HN.out] at HB5
              cases bk
              · have hsz := hM5.size
                go_wp2_with (at_builtin; obtain ⟨F9, _q1, q2, _q3, _q4⟩ := hM5; refine wpList_append_lies _ (by rfl) _ _ _ (by rfl) w.heap.size 9 i0 _ 1 16 Try.underlying53 hi0 hz0 hz1 hz2 rfl (by omega) (.slice A6 ws.length c6) _ _ (by rfl) (q2.alloc _) ⟨w5.heap.size, 0, none⟩ 1 1 [.string x] (by rfl) (by rfl) (World.news_of_block (cs := #[.string x]) (t := 9) (fr := (0, 0)) (heap_alloc_new w5 _)) (by simp [Value.oneCell']) (by omega) (by unfold maxLen; omega) (by omega) (by simp; omega) (w5.heap.size + 1) (by simp) ?_; intro gg c5 w7 O3 hg3 hat hlt3; have hM7 := order_append ⟨F9, _q1, q2, _q3, _q4⟩ hg3 O3 hat)
                go_roundg (g1 - 1)
                case measure => omega
                case rel => exact ⟨j + 1, S5, ws ++ [x], by omega, by omega, by go_num, by omega, by simp; omega, HB5.out, hM7⟩
              · go_wp2_with fail
                go_roundg (g1 - 1)
                case measure => omega
                case rel => exact ⟨j + 1, S5, ws, by omega, by omega, by go_num, by omega, by omega, HB5.out, hM5⟩
    · have hend : l.length ≤ j ∨ (j < l.length ∧ decide ((j : Int) < 100) = false) := by
        by_cases h : j < l.length
        · exact .inr ⟨h, by simp; omega⟩
        · exact .inl (by omega)
      clear hjl hr hrb hbk q1 q2 q4 q5
      rcases hend with hend | ⟨hend, hend2⟩
      all_goals
        go_wp2_with fail
        refine (order_bodies hM (by omega) HBO.out).mono ?_
        rintro e w3 ⟨A3, c3, rfl, hown, hK3⟩
        have hM3 := hM.kept hK3
        have D := Lib.hid (texts_any A3 A6 c3 c6 _ _ ws ws w3 (by omega) (by omega) (reads_strs hown) hM3.reads)
        rw [decide_eq_true (rfl : ws = ws)] at D
        by_cases hw0 : 0 < ws.length
        · obtain ⟨g, rfl, hgl, _⟩ := own_at hown hw0
          have hgb : wr.heap.size ≤ g := own_base hown rfl
          obtain ⟨cs, hcs, hcl⟩ : ∃ cs, Blk w3 g 9 cs ∧ ws.length ≤ cs.size := by
            rcases hown.2 with ⟨h, _⟩ | ⟨g', cap, cur, hv, _, hh, hnc, _, hsz, _⟩
            · cases h
            · cases hv
              exact ⟨cur, hh, by omega⟩
          have hG := order_with hM hK3 hgb
          clear hown hM hM3 hK3
          go_wp2_with fail
          refine D.out.mono ?_
          rintro e w4 ⟨rfl, n4, rfl⟩
          clear D
          have hG4 := hG.kept ((Turned.refl _ w3).drewN n4)
          have hcs4 := hcs.drewN n4
          generalize w3.drewN n4 = w4 at hG4 hcs4
          clear hG hcs hgl hgb
          go_wp2_with fail
          obtain ⟨wo, rfl⟩ : ∃ wo : World, wo = wr := ⟨_, rfl⟩
          go_loopg [93] ws.length (fun g2 i2 wr2 => ∃ (i : Nat) (cs : Array Value), i + g2 = ws.length ∧ i2 = .int .i64 i ∧ Blk wr2 g 9 cs ∧ ws.length ≤ cs.size ∧ OrderG w wr2 w1.heap.size S ws (.slice A6 ws.length c6) g)
          case atStart => exact ⟨0, cs, Nat.zero_add _, rfl, hcs4, hcl, hG4⟩
          case round =>
            obtain ⟨i, cs5, hi, rfl, hcs5, hcl5, hG5⟩ := hrel
            clear hG4 hcs4
            by_cases hil : i < ws.length
            · have d0 : wr.cell? ⟨g, i, none⟩ = some (cs5[i]'(by omega)) := (hcs5.cell i).trans (Array.getElem?_eq_getElem (by omega))
              have d1 : wr.frozen? ⟨g, i, none⟩ = false := hcs5.frozen i
              have hcs6 := hcs5.set_ i (.string ⟨#[63]⟩)
              have hG6 := hG5.store i (.string ⟨#[63]⟩)
              clear hcs5 hG5
              go_wp2_with fail
              go_roundg (gk - 1)
              case measure => omega
              case rel => exact ⟨i + 1, _, by omega, by go_num, hcs6, by simpa using hcl5, hG6⟩
            · have hM9 := hG5.at_
              clear hG5 hcs5
              go_wp2_with fail
              refine (order_bodies hM9 (by omega) HBO.out).mono ?_
              rintro e w10 ⟨A10, c10, rfl, hown10, hK10⟩
              have hM10 := hM9.kept hK10
              have D2 := Lib.hid (texts_any A10 A6 c10 c6 _ _ ws ws w10 (by omega) (by omega) (reads_strs hown10) hM10.reads)
              rw [decide_eq_true (rfl : ws = ws)] at D2
              obtain ⟨F, q1, q2, q4, q5⟩ := hM10
              clear q1 q2 q4 hown10 hM9
              go_wp2_with fail
              refine D2.out.mono ?_
              rintro e w11 ⟨rfl, n11, rfl⟩
              go_wp2_with fail
              go_ret
              exact ⟨rfl, (q5.drewN n11).mono (fun k hk h => by unfold From at h; omega)⟩
        · clear hown hM
          go_wp2_with fail
          refine D.out.mono ?_
          rintro e w4 ⟨rfl, n4, rfl⟩
          clear D
          have hM9 := hM3.kept ((Turned.refl _ w3).drewN n4)
          generalize w3.drewN n4 = w4 at hM9
          clear hM3 hK3
          go_wp2_with fail
          obtain ⟨wo, rfl⟩ : ∃ wo : World, wo = wr := ⟨_, rfl⟩
          go_loopg [93] 0 (fun g2 i2 wr2 => i2 = .int .i64 0 ∧ w4 = wr2)
          case atStart => exact ⟨rfl, rfl⟩
          case round =>
            obtain ⟨rfl, rfl⟩ := hrel
            go_wp2_with fail
            refine (order_bodies hM9 (by omega) HBO.out).mono ?_
            rintro e w10 ⟨A10, c10, rfl, hown10, hK10⟩
            have hM10 := hM9.kept hK10
            have D2 := Lib.hid (texts_any A10 A6 c10 c6 _ _ ws ws w10 (by omega) (by omega) (reads_strs hown10) hM10.reads)
            rw [decide_eq_true (rfl : ws = ws)] at D2
            obtain ⟨F, q1, q2, q4, q5⟩ := hM10
            clear q1 q2 q4 hown10 hM9
            go_wp2_with fail
            refine D2.out.mono ?_
            rintro e w11 ⟨rfl, n11, rfl⟩
            go_wp2_with fail
            go_ret
            exact ⟨rfl, (q5.drewN n11).mono (fun k hk h => by unfold From at h; omega)⟩
end Go.Proofs.Ytkldepflfomegaa
