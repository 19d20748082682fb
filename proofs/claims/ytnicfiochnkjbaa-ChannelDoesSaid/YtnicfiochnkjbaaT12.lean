/- The channels' laws: acts, play. -/
import Derived.Test.YtnicfiochnkjbaaT11
namespace Go.Proofs.Ytnicfiochnkjbaa
open Go.RowKit
structure TAct where
  kind : Int
  ch : Int
  A : Option Addr
  c : Nat
  who : List ByteArray
  seq : Int
def TAct.cs (x : TAct) : Array Value := #[.int .i64 x.kind, .int .u16 x.ch, .slice x.A x.who.length x.c, .int .i64 x.seq]
def tactV (x : TAct) : Value := .agg x.cs
structure tactOk (w : World) (x : TAct) : Prop where
  kind : i64 x.kind
  ch : u16 x.ch
  seq : i64 x.seq
  len : x.who.length ≤ maxLen
  words : ∀ s ∈ x.who, s.size ≤ maxLen
  reads : ReadsT Value.string w w.heap.size 1 x.A x.who
structure SmallT (x : TAct) : Prop where
  len : x.who.length ≤ 1000
  words : ∀ s ∈ x.who, s.size ≤ 1000000
theorem smallT_of {x : TAct} (h : largeR 100 x.who = false) : SmallT x := by
  obtain ⟨h1, h2⟩ := largeR_false h
  exact ⟨by omega, fun s hs => by have := h2 s hs; omega⟩
theorem large_tact {w wr : World} {x : TAct} (hK : Kept w wr) (hx : tactOk w x) :
    Calls Try.prog 30 #[.slice x.A x.who.length x.c] wr fun e w' => e = .returned (.bool (largeR 100 x.who)) ∧ wr = w' :=
  large100_any x.A x.c _ x.who wr hx.len hx.words (hx.reads.kept hK)
/-- What an act does to a table. -/
def PStep (room : Int) (x : TAct) (E : List TEnt) (G : List Int) (out er : Int) (E' : List TEnt) (G' : List Int) : Prop :=
  (x.kind = 0 ∧ openEr x.ch x.who E G ≠ 0 ∧ out = 0 ∧ er = openEr x.ch x.who E G ∧ E' = E ∧ G' = G) ∨
  (x.kind = 0 ∧ openEr x.ch x.who E G = 0 ∧ out = outT room E ∧ er = 0 ∧ (∃ y : TEnt, y.ch = x.ch ∧ y.who = x.who ∧ y.last = -1 ∧ E' = cutT room E ++ [y]) ∧ G' = goneT room E G) ∨
  (x.kind = 1 ∧ out = 0 ∧ er = useEr x.ch x.seq E G ∧ E' = useE x.ch x.seq E G ∧ G' = G) ∨
  (x.kind = 2 ∧ out = 0 ∧ er = getEr x.ch E G ∧ E' = (if (openT x.ch E G).isSome then dropE x.ch E else E) ∧ G' = (if (openT x.ch E G).isSome then G ++ [x.ch] else G)) ∨
  (x.kind ≠ 0 ∧ x.kind ≠ 1 ∧ x.kind ≠ 2 ∧ out = 0 ∧ er = 0 ∧ E' = E ∧ G' = G)
def PlayP (w wr : World) (t mb : Nat) (room : Int) (x : TAct) (E : List TEnt) (G : List Int) (e : Ending) (w' : World) : Prop :=
  ∃ out er E' G', e = .returned (.tuple #[.int .u16 out, .int .i64 er]) ∧ TabP w w' t mb room E' G' ∧ Turned (TFoot w.heap.size mb wr) wr w' ∧ PStep room x E G out er E' G' ∧ (∀ y ∈ E', (∃ z ∈ E, z.ownB = y.ownB) ∨ ∀ g, y.ownB = some g → wr.heap.size ≤ g)
section
variable {w wr W : World} {base t mb : Nat} {room : Int} {E : List TEnt} {G : List Int}
theorem TFoot.since (hK : Kept w W) {k : Nat} (hk : k < w.heap.size) (h : TFoot base mb W k) : TFoot base mb w k := by
  rcases h with h | h
  · exact .inl h
  · exact .inr (TRow.since hK hk h)
theorem useE_own {c seq : Int} : ∀ y ∈ useE c seq E G, ∃ z ∈ E, z.ownB = y.ownB := by
  intro y hy
  unfold useE at hy
  rcases ho : openT c E G with _ | x
  · rw [ho] at hy
    exact ⟨y, hy, rfl⟩
  · rw [ho] at hy
    simp only at hy
    split at hy
    · exact ⟨y, hy, rfl⟩
    · split at hy
      · exact ⟨y, hy, rfl⟩
      · rcases List.mem_append.1 hy with hy | hy
        · exact ⟨y, dropE_mem hy, rfl⟩
        · rw [List.mem_singleton.1 hy]
          exact ⟨x, (open_some ho).2.2.2.2.1, rfl⟩
set_option maxRecDepth 100000 in
set_option maxHeartbeats 1000000 in
theorem play_any (h : TabP w wr t mb room E G) (kind : Int) (ch : Int) (A : Option Addr) (c : Nat) (who : List ByteArray) (seq : Int) (hc : u16 ch) (hl : who.length ≤ 1000) (hs : ∀ s ∈ who, s.size ≤ 1000000) (hr : ReadsT Value.string wr wr.heap.size 1 A who) (hrw : ∀ b o, 0 < who.length → A = some ⟨b, o, none⟩ → b < wr.heap.size → ¬ TFoot w.heap.size mb wr b) :
    Calls Try.prog 31 #[.pointer (some ⟨t, 0, none⟩), .agg #[.int .i64 kind, .int .u16 ch, .slice A who.length c, .int .i64 seq]] wr (PlayP w wr t mb room ⟨kind, ch, A, c, who, seq⟩ E G) := by
  have hK0 : Kept wr (wr.alloc (.cells #[.int .i64 kind, .int .u16 ch, .slice A who.length c, .int .i64 seq] 62)) := (Turned.refl _ wr).alloc _
  have h0 := h.kept hK0
  have HK0 := Lib.hid hK0
  have hback : ∀ W', Turned (TFoot w.heap.size mb (wr.alloc (.cells #[.int .i64 kind, .int .u16 ch, .slice A who.length c, .int .i64 seq] 62))) (wr.alloc (.cells #[.int .i64 kind, .int .u16 ch, .slice A who.length c, .int .i64 seq] 62)) W' → Turned (TFoot w.heap.size mb wr) wr W' := fun _ hT => (hK0.mono (fun _ _ h => h.elim)).then_ hT (fun k hk h => TFoot.since hK0 hk h)
  have HBACK := Lib.hid hback
  have HP : Hid (Blk (wr.alloc (.cells #[.int .i64 kind, .int .u16 ch, .slice A who.length c, .int .i64 seq] 62)) wr.heap.size 62 #[.int .i64 kind, .int .u16 ch, .slice A who.length c, .int .i64 seq]) := Lib.hid (Blk.new wr _ _)
  have hsz := hK0.size
  have DO := Lib.hid (open_p h0 hc A c hl hs (hr.kept hK0) (fun b o hw0 e _ hf => by
      by_cases hb : b < wr.heap.size
      · exact hrw b o hw0 e hb (TFoot.since hK0 hb hf)
      · rcases hf with hf | ⟨_, ty, cs, hf, ht⟩
        · have := h.tab.lt.2
          omega
        · have hlt := hf.lt
          rw [World.size_alloc] at hlt
          obtain rfl : b = wr.heap.size := by omega
          have hp := HP.out
          unfold Blk at hp hf
          rw [hp] at hf
          injection hf with hf
          injection hf with _ hf
          subst hf
          rcases ht with h | h <;> revert h <;> decide))
  have DU := Lib.hid (use_p h0 hc seq)
  have DC := Lib.hid (close_p h0 hc)
  have hfew := h.few
  have HH := Lib.hid h
  clear hback hK0 h0 hrw hr hs h
  by_cases k0 : kind = 0
  · have b0 : (kind == 0) = true := by simpa using k0
    have HK := Lib.hid k0
    clear k0 DU DC HP
    go_enter Try.func31, Try.ntmps31
    go_wp2_with fail
    refine DO.out.mono ?_
    rintro e w2 hp
    clear DO
    rcases hp with ⟨hne, rfl, hP, hK2⟩ | ⟨he, y, hy1, hy2, hy3, hy4, rfl, hP, hT⟩
    · go_wp2_with fail
      go_ret2
      exact ⟨_, _, E, G, rfl, hP, HBACK.out _ (hK2.mono (fun _ _ h => h.elim)), .inl ⟨HK.out, hne, rfl, rfl, rfl, rfl⟩, fun y hy => .inl ⟨y, hy, rfl⟩⟩
    · go_wp2_with fail
      go_ret2
      refine ⟨_, _, _, _, rfl, hP, HBACK.out _ hT, .inr (.inl ⟨HK.out, he, rfl, rfl, ⟨y, hy1, hy2, hy3, rfl⟩, rfl⟩), fun z hz => ?_⟩
      rcases List.mem_append.1 hz with hz | hz
      · exact .inl ⟨z, cut_mem hz, rfl⟩
      · rw [List.mem_singleton.1 hz]
        exact .inr (fun g hg => by have := hy4 g hg; omega)
  · have b0 : (kind == 0) = false := by simpa using k0
    by_cases k1 : kind = 1
    · have b1 : (kind == 1) = true := by simpa using k1
      have HK := Lib.hid k1
      clear k0 k1 DO DC HP
      go_enter Try.func31, Try.ntmps31
      go_wp2_with fail
      refine DU.out.mono ?_
      rintro e w2 ⟨rfl, hP, hT⟩
      clear DU
      go_wp2_with fail
      go_ret2
      exact ⟨_, _, _, _, rfl, hP, HBACK.out _ hT, .inr (.inr (.inl ⟨HK.out, rfl, rfl, rfl, rfl⟩)), fun y hy => .inl (useE_own y hy)⟩
    · have b1 : (kind == 1) = false := by simpa using k1
      by_cases k2 : kind = 2
      · have b2 : (kind == 2) = true := by simpa using k2
        have HK := Lib.hid k2
        clear k0 k1 k2 DO DU HP
        go_enter Try.func31, Try.ntmps31
        go_wp2_with fail
        refine DC.out.mono ?_
        rintro e w2 ⟨rfl, hP, hT⟩
        clear DC
        go_wp2_with fail
        go_ret2
        refine ⟨_, _, _, _, rfl, hP, HBACK.out _ hT, .inr (.inr (.inr (.inl ⟨HK.out, rfl, rfl, rfl, rfl⟩))), fun y hy => .inl ⟨y, ?_, rfl⟩⟩
        split at hy
        · exact dropE_mem hy
        · exact hy
      · have b2 : (kind == 2) = false := by simpa using k2
        have HK := Lib.hid (And.intro k0 (And.intro k1 k2))
        clear k0 k1 k2 DO DU DC HP
        go_enter Try.func31, Try.ntmps31
        go_wp2_with fail
        go_ret2
        exact ⟨_, _, E, G, rfl, HH.out.kept HK0.out, HK0.out.mono (fun _ _ h => h.elim), .inr (.inr (.inr (.inr ⟨HK.out.1, HK.out.2.1, HK.out.2.2, rfl, rfl, rfl, rfl⟩))), fun y hy => .inl ⟨y, hy, rfl⟩⟩
end
end Go.Proofs.Ytnicfiochnkjbaa
