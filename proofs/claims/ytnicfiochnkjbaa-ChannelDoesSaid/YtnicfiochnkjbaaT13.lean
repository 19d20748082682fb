/- The channels' laws: plain facts on acts; maps by channels. -/
import Derived.Test.YtnicfiochnkjbaaT12
namespace Go.Proofs.Ytnicfiochnkjbaa
open Go.RowKit
theorem play_act {w wr : World} {t mb : Nat} {room : Int} {E : List TEnt} {G : List Int} {x : TAct} (h : TabP w wr t mb room E G) (hx : tactOk w x) (hs : SmallT x) :
    Calls Try.prog 31 #[.pointer (some ⟨t, 0, none⟩), .agg #[.int .i64 x.kind, .int .u16 x.ch, .slice x.A x.who.length x.c, .int .i64 x.seq]] wr (PlayP w wr t mb room x E G) :=
  play_any h x.kind x.ch x.A x.c x.who x.seq hx.ch hs.len hs.words (hx.reads.kept h.since) (fun b o h0 e _ hf => by
    obtain ⟨b', o', e', hb, _⟩ := hx.reads 0 h0
    rw [e] at e'
    cases e'
    have := TFoot.ge h.tab.gm hf
    omega)
theorem same_ch {E : List TEnt} (hk : E.Pairwise (fun a b => a.ch ≠ b.ch)) {a b : TEnt} (ha : a ∈ E) (hb : b ∈ E) (h : a.ch = b.ch) : a = b :=
  List.Pairwise.forall_of_forall_of_flip (R := fun x y : TEnt => x.ch = y.ch → x = y) (fun _ _ _ => rfl) (hk.imp (fun hne e => absurd e hne)) (hk.imp (fun hne e => absurd e.symm hne)) ha hb h
theorem dropE_keep {E : List TEnt} {c : Int} {z : TEnt} (hz : z ∈ E) (hc : z.ch ≠ c) : z ∈ dropE c E := by
  unfold dropE
  rcases hp : placeT c E with _ | i
  · exact hz
  · simp only
    obtain ⟨a, ha1, _, ha3, ha4⟩ := placeT_in hp
    obtain ⟨k, hk, rfl⟩ := List.getElem_of_mem hz
    rw [List.mem_eraseIdx_iff_getElem]
    refine ⟨k, hk, fun e => ?_, rfl⟩
    subst e
    rw [List.getElem?_eq_getElem hk] at ha1
    injection ha1 with ha1
    rw [ha1] at hc
    exact hc ha3
/-- A map by channels. -/
def MapF {α : Type} (W : World) (b : Nat) (V : α → Value) (f : Int → Option α) : Prop :=
  ∃ l, MapAt W Try.prog 56 b l ∧ (∀ p ∈ l, ∃ c a, u16 c ∧ f c = some a ∧ p = (.int .u16 c, V a)) ∧ ∀ c a, u16 c → f c = some a → (.int .u16 c, V a) ∈ l
section
variable {α : Type} {W W' : World} {b : Nat} {V : α → Value} {f : Int → Option α} {T e : TypeId} {c : Int}
theorem MapF.lt (h : MapF W b V f) : b < W.heap.size := by
  obtain ⟨l, h1, _⟩ := h
  exact h1.lt
theorem MapF.turned {S : Nat → Prop} (h : MapF W b V f) (hT : Turned S W W') (hn : ¬ S b) : MapF W' b V f := by
  obtain ⟨l, h1, h2⟩ := h
  exact ⟨l, h1.turned hT hn, h2⟩
theorem MapF.blk_ne (h : MapF W b V f) {g : Nat} {t : TypeId} {cs : Array Value} (hg : Blk W g t cs) : g ≠ b := by
  obtain ⟨l, h1, _⟩ := h
  exact h1.blk_ne hg
theorem MapF.tfoot (h : MapF W b V f) {base mb : Nat} (hne : b ≠ mb) : ¬ TFoot base mb W b := by
  rintro (e | ⟨_, ty, cs, hb, _⟩)
  · exact hne e
  · exact h.blk_ne hb rfl
theorem MapF.new (W : World) : MapF (W.alloc (.map #[] 0)) W.heap.size V (fun _ => none) := ⟨[], MapAt.new W _ _, fun p hp => (by cases hp), fun c a _ h => (by cases h)⟩
theorem MapF.look_some (h : MapF W b V f) (ht : Try.prog.underlying T = some (.map 56 e)) (hc : u16 c) {a : α} (hf : f c = some a) (ok : Bool) :
    (Instr.lookup T (.map (some b)) (.int .u16 c) ok).run Try.prog W = .ok (if ok then .tuple #[V a, .bool true] else V a) W := by
  obtain ⟨l, h1, h2, h3⟩ := h
  exact h1.look_yes key_atom ht (h3 c a hc hf) ok
theorem MapF.look_none (h : MapF W b V f) (ht : Try.prog.underlying T = some (.map 56 e)) (hc : u16 c) (hf : f c = none) {z : Value} (hz : (zeroValue e).run Try.prog W = .ok z W) (ok : Bool) :
    (Instr.lookup T (.map (some b)) (.int .u16 c) ok).run Try.prog W = .ok (if ok then .tuple #[z, .bool false] else z) W := by
  obtain ⟨l, h1, h2, h3⟩ := h
  refine h1.look_no key_atom ht hz (isK_atom hc) (fun p hp e => ?_) ok
  obtain ⟨d, a, _, hd, rfl⟩ := h2 p hp
  injection e with _ e
  rw [e, hf] at hd
  cases hd
def updF (f : Int → Option α) (c : Int) (a : α) : Int → Option α := fun d => if d = c then some a else f d
theorem MapF.put (h : MapF W b V f) (ht : Try.prog.underlying T = some (.map 56 e)) (hc : u16 c) (a : α) :
    ∃ w2, (Instr.mapUpdate T (.map (some b)) (.int .u16 c) (V a)).run Try.prog W = .ok () w2 ∧ MapF w2 b V (updF f c a) ∧ Turned (fun k => k = b) W w2 := by
  obtain ⟨l, h1, h2, h3⟩ := h
  rcases hf : f c with _ | a0
  · have hno : ∀ p ∈ l, p.1 ≠ .int .u16 c := fun p hp e => by
      obtain ⟨d, a, _, hd, rfl⟩ := h2 p hp
      injection e with _ e
      rw [e, hf] at hd
      cases hd
    obtain ⟨o, hrun, hM⟩ := h1.put_new key_atom ht (isK_atom hc) hno (V a)
    refine ⟨_, hrun, ⟨_, hM, fun p hp => ?_, fun d a' hd hf' => ?_⟩, (Turned.refl (fun k => k = b) W).setBlock (fun _ => rfl) o⟩
    · rcases List.mem_append.1 hp with hp | hp
      · obtain ⟨d, a', hd1, hd2, rfl⟩ := h2 p hp
        refine ⟨d, a', hd1, ?_, rfl⟩
        unfold updF
        rw [if_neg (fun e => by rw [e, hf] at hd2; cases hd2)]
        exact hd2
      · rw [List.mem_singleton.1 hp]
        exact ⟨c, a, hc, by unfold updF; rw [if_pos rfl], rfl⟩
    · unfold updF at hf'
      split at hf'
      · rename_i e
        injection hf' with hf'
        rw [e, hf']
        simp
      · exact List.mem_append.2 (.inl (h3 d a' hd hf'))
  · obtain ⟨w2, l', l0, hrun, hM, hp1, hp2, hT, _⟩ := h1.put_over key_atom ht (h3 c a0 hc hf) (V a)
    have hnd := hp1.pairwise h1.nodup (fun {_ _} h => Ne.symm h)
    rw [List.pairwise_cons] at hnd
    refine ⟨w2, hrun, ⟨l', hM, fun p hp => ?_, fun d a' hd hf' => ?_⟩, hT⟩
    · rcases List.mem_cons.1 (hp2.subset hp) with rfl | hp
      · exact ⟨c, a, hc, by unfold updF; rw [if_pos rfl], rfl⟩
      · obtain ⟨d, a', hd1, hd2, rfl⟩ := h2 p (hp1.symm.subset (List.mem_cons_of_mem _ hp))
        refine ⟨d, a', hd1, ?_, rfl⟩
        unfold updF
        rw [if_neg (fun e => by subst e; exact hnd.1 _ hp rfl)]
        exact hd2
    · unfold updF at hf'
      split at hf'
      · rename_i e
        injection hf' with hf'
        rw [e, ← hf']
        exact hp2.symm.subset (by simp)
      · rename_i e
        have := hp1.subset (h3 d a' hd hf')
        rcases List.mem_cons.1 this with h | h
        · injection h with h _
          injection h with _ h
          exact absurd h e
        · exact hp2.symm.subset (List.mem_cons_of_mem _ h)
theorem TabP.mapped {w : World} {t mb : Nat} {room : Int} {E : List TEnt} {G : List Int} (h : TabP w W t mb room E G) (hm : MapF W b V f) (hT : Turned (fun k => k = b) W W') (hne : b ≠ mb) (hb : w.heap.size ≤ b) : TabP w W' t mb room E G :=
  ⟨h.tab.beside hT (fun k ty cs _ hB _ e => hm.blk_ne hB e) (fun x _ g cs _ _ hB e => hm.blk_ne hB e) (fun e => hne e.symm), h.since.then_ hT (fun i hi e => by omega), h.keys, h.dis, h.len, h.lo, h.hi, h.span⟩
end
/-- What is open stays open, or is gone; what is gone stays gone. -/
theorem PStep.stays {room : Int} {x : TAct} {E E' : List TEnt} {G G' : List Int} {out er : Int} (h : PStep room x E G out er E' G') (hk : E.Pairwise (fun a b => a.ch ≠ b.ch)) (hlo : 1 ≤ room) :
    (∀ y ∈ E, (∃ z ∈ E', z.ch = y.ch ∧ y.last ≤ z.last) ∨ y.ch ∈ G') ∧ ∀ c ∈ G, c ∈ G' := by
  rcases h with ⟨_, _, _, _, rfl, rfl⟩ | ⟨_, _, _, _, ⟨y, _, _, _, rfl⟩, rfl⟩ | ⟨_, _, _, rfl, rfl⟩ | ⟨_, _, _, rfl, rfl⟩ | ⟨_, _, _, _, _, rfl, rfl⟩
  · exact ⟨fun y hy => .inl ⟨y, hy, rfl, Int.le_refl _⟩, fun _ h => h⟩
  · unfold cutT goneT outT
    by_cases hf : room ≤ (E.length : Int)
    · simp only [if_pos hf]
      cases E with
      | nil => simp at hf; omega
      | cons a E1 =>
        refine ⟨fun z hz => ?_, fun c hc => by simp [hc]⟩
        rcases List.mem_cons.1 hz with rfl | hz
        · exact .inr (by simp)
        · exact .inl ⟨z, by simp [hz], rfl, Int.le_refl _⟩
    · simp only [if_neg hf]
      exact ⟨fun z hz => .inl ⟨z, by simp [hz], rfl, Int.le_refl _⟩, fun _ h => h⟩
  · refine ⟨fun z hz => ?_, fun _ h => h⟩
    unfold useE
    rcases ho : openT x.ch E G' with _ | a
    · exact .inl ⟨z, hz, rfl, Int.le_refl _⟩
    · simp only
      split
      · exact .inl ⟨z, hz, rfl, Int.le_refl _⟩
      · split
        · exact .inl ⟨z, hz, rfl, Int.le_refl _⟩
        · rename_i h1 h2
          by_cases hzc : z.ch = x.ch
          · obtain ⟨_, _, _, _, ha, hac⟩ := open_some ho
            have hza : z = a := same_ch hk hz ha (by rw [hzc, hac])
            refine .inl ⟨a.to x.seq, by simp, by rw [hza]; rfl, ?_⟩
            rw [hza]
            show a.last ≤ x.seq
            omega
          · refine .inl ⟨z, List.mem_append.2 (.inl ?_), rfl, Int.le_refl _⟩
            exact dropE_keep hz hzc
  · refine ⟨fun z hz => ?_, fun c hc => ?_⟩
    · split
      · by_cases hzc : z.ch = x.ch
        · exact .inr (by rw [hzc]; simp)
        · exact .inl ⟨z, dropE_keep hz hzc, rfl, Int.le_refl _⟩
      · exact .inl ⟨z, hz, rfl, Int.le_refl _⟩
    · split
      · simp [hc]
      · exact hc
  · exact ⟨fun y hy => .inl ⟨y, hy, rfl, Int.le_refl _⟩, fun _ h => h⟩
theorem use_ok {room out er : Int} {x : TAct} {E E' : List TEnt} {G G' : List Int} (hst : PStep room x E G out er E' G') (hk1 : x.kind = 1) (her : er = 0) : ∃ a ∈ E, a.ch = x.ch ∧ x.ch ∉ G ∧ ¬ x.seq < 0 ∧ ¬ x.seq ≤ a.last ∧ E' = dropE x.ch E ++ [a.to x.seq] ∧ G' = G := by
  rcases hst with ⟨h, _⟩ | ⟨h, _⟩ | ⟨_, _, h3, h4, h5⟩ | ⟨h, _⟩ | ⟨_, h, _⟩
  · omega
  · omega
  · rw [her] at h3
    unfold useEr at h3
    unfold useE at h4
    rcases ho : openT x.ch E G with _ | a
    · rw [ho] at h3
      exact absurd h3.symm (open_none ho).2
    · rw [ho] at h3 h4
      simp only at h3 h4
      obtain ⟨_, _, _, hng, ha, hac⟩ := open_some ho
      split at h3
      · cases h3
      · rename_i s0
        split at h3
        · cases h3
        · rename_i s1
          rw [if_neg s0, if_neg s1] at h4
          exact ⟨a, ha, hac, hng, s0, s1, h4, h5⟩
  · omega
  · exact absurd hk1 h
end Go.Proofs.Ytnicfiochnkjbaa
