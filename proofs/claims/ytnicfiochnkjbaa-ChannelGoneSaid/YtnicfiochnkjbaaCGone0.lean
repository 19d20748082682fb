/- ChannelGone: plain facts. -/
import Derived.Test.YtnicfiochnkjbaaT13
namespace Go.Proofs.Ytnicfiochnkjbaa
open Go.RowKit
/-- What the law knows of channels. -/
structure GoneI (E : List TEnt) (G : List Int) (fK fG : Int → Option Bool) : Prop where
  kt : ∀ c b, fK c = some b → b = true
  gt : ∀ c b, fG c = some b → b = true
  ek : ∀ x ∈ E, fK x.ch = some true
  kc : ∀ c b, fK c = some b → (∃ x ∈ E, x.ch = c) ∨ c ∈ G
  gg : ∀ c, fG c = some true ↔ c ∈ G
  sp : ∀ c ∈ G, c / 8192 = 2
section
variable {room out er : Int} {x : TAct} {E E' : List TEnt} {G G' : List Int} {fK fG : Int → Option Bool}
theorem updF_true {f : Int → Option Bool} {c d : Int} {b : Bool} (h : ∀ c b, f c = some b → b = true) (hf : updF f c true d = some b) : b = true := by
  unfold updF at hf
  split at hf
  · injection hf with hf
    exact hf.symm
  · exact h d b hf
/-- An act on a channel that is gone. -/
theorem gone_was (hst : PStep room x E G out er E' G') (hd : ∀ x ∈ E, x.ch ∉ G) (hsp : ∀ c ∈ G, c / 8192 = 2) (hg : x.ch ∈ G) : er = 21 ∨ (x.kind < 0 ∨ 2 < x.kind) ∨ (x.kind = 0 ∧ er = 2) := by
  have hgb : goneB x.ch G = true := by unfold goneB; exact decide_eq_true hg
  have hge : getEr x.ch E G = 21 := by unfold getEr; rw [hgb]; rfl
  have hop : openT x.ch E G = none := by unfold openT; rw [hgb]; rfl
  have hfn : ¬ ((foundT x.ch E).isSome = true) := by
    rcases hf : foundT x.ch E with _ | a
    · simp
    · unfold foundT at hf
      have h1 := List.mem_of_find?_eq_some hf
      have h2 : a.ch = x.ch := by simpa using List.find?_some hf
      exact absurd hg (by rw [← h2]; exact hd a h1)
  have hoe : openEr x.ch x.who E G = 2 ∨ openEr x.ch x.who E G = 21 := by
    unfold openEr
    rw [if_neg (by rw [hsp _ hg]; decide)]
    by_cases hset : setR x.who = false
    · rw [if_pos hset]
      exact .inl rfl
    · rw [if_neg hset, if_neg hfn, if_pos hgb]
      exact .inr rfl
  rcases hst with ⟨hk, _, _, he, _⟩ | ⟨hk, ho, _⟩ | ⟨hk, _, he, _⟩ | ⟨hk, _, he, _⟩ | ⟨h0, h1, h2, _⟩
  · rw [he]
    rcases hoe with h | h
    · exact .inr (.inr ⟨hk, h⟩)
    · exact .inl h
  · rw [ho] at hoe
    rcases hoe with h | h <;> cases h
  · left
    rw [he]
    unfold useEr
    rw [hop]
    exact hge
  · exact .inl (by rw [he]; exact hge)
  · exact .inr (.inl (by omega))
theorem gone_open (h : GoneI E G fK fG) (hst : PStep room x E G out er E' G') (hlo : 1 ≤ room) (hsp : ∀ x ∈ E, x.ch / 8192 = 2) (hk0 : x.kind = 0) (her : er = 0) :
    (out ≠ 0 → GoneI E' G' (updF fK x.ch true) (updF fG out true)) ∧ (out = 0 → GoneI E' G' (updF fK x.ch true) fG) := by
  rcases hst with ⟨_, hne, _, he, _, _⟩ | ⟨_, ho, hou, he, ⟨y, hy1, hy2, hy3, rfl⟩, rfl⟩ | ⟨hk, _⟩ | ⟨hk, _⟩ | ⟨hk, _⟩
  · exact absurd (by rw [← he]; exact her) hne
  · obtain ⟨z1, _, _, _⟩ := openEr_zero ho
    unfold cutT goneT
    unfold outT at hou
    by_cases hf : room ≤ (E.length : Int)
    · rw [if_pos hf] at hou
      cases E with
      | nil => simp at hf; omega
      | cons a E1 =>
        have hou' : out = a.ch := hou
        have ha := hsp a (by simp)
        have hot : outT room (a :: E1) = out := by unfold outT; rw [if_pos hf, hou']
        refine ⟨fun _ => ?_, fun h0 => by omega⟩
        rw [if_pos hf, if_pos hf, hot]
        refine ⟨fun c b => updF_true h.kt, fun c b => updF_true h.gt, fun z hz => ?_, fun c b hb => ?_, fun c => ?_, fun c hc => ?_⟩
        · rcases List.mem_append.1 hz with hz | hz
          · unfold updF
            split
            · rfl
            · exact h.ek z (by simp at hz; simp [hz])
          · rw [List.mem_singleton.1 hz, hy1]
            unfold updF
            rw [if_pos rfl]
        · unfold updF at hb
          split at hb
          · rename_i e
            exact .inl ⟨y, by simp, by rw [hy1, e]⟩
          · rcases h.kc c b hb with ⟨z, hz, hzc⟩ | hg
            · rcases List.mem_cons.1 hz with rfl | hz
              · exact .inr (by rw [← hzc, hou']; simp)
              · exact .inl ⟨z, by simp [hz], hzc⟩
            · exact .inr (by simp [hg])
        · unfold updF
          constructor
          · intro hu
            split at hu
            · rename_i e
              rw [e]; simp
            · exact List.mem_append.2 (.inl ((h.gg c).1 hu))
          · intro hm
            split
            · rfl
            · rename_i e
              rcases List.mem_append.1 hm with hm | hm
              · exact (h.gg c).2 hm
              · exact absurd (List.mem_singleton.1 hm) e
        · rcases List.mem_append.1 hc with hc | hc
          · exact h.sp c hc
          · rw [List.mem_singleton.1 hc, hou']
            exact ha
    · rw [if_neg hf] at hou
      rw [if_neg hf, if_neg hf]
      refine ⟨fun h0 => absurd hou h0, fun _ => ⟨fun c b => updF_true h.kt, h.gt, fun z hz => ?_, fun c b hb => ?_, h.gg, h.sp⟩⟩
      · rcases List.mem_append.1 hz with hz | hz
        · unfold updF
          split
          · rfl
          · exact h.ek z hz
        · rw [List.mem_singleton.1 hz, hy1]
          unfold updF
          rw [if_pos rfl]
      · unfold updF at hb
        split at hb
        · rename_i e
          exact .inl ⟨y, by simp, by rw [hy1, e]⟩
        · rcases h.kc c b hb with ⟨z, hz, hzc⟩ | hg
          · exact .inl ⟨z, by simp [hz], hzc⟩
          · exact .inr hg
  · omega
  · omega
  · exact absurd hk0 hk
theorem gone_close (h : GoneI E G fK fG) (hst : PStep room x E G out er E' G') (hsp : ∀ x ∈ E, x.ch / 8192 = 2) (hk2 : x.kind = 2) (her : er = 0) : GoneI E' G' fK (updF fG x.ch true) := by
  rcases hst with ⟨hk, _⟩ | ⟨hk, _⟩ | ⟨hk, _⟩ | ⟨_, _, he, rfl, rfl⟩ | ⟨_, _, hk, _⟩
  · omega
  · omega
  · omega
  · rw [her] at he
    rcases ho : openT x.ch E G with _ | a
    · exact absurd he.symm (open_none ho).2
    · obtain ⟨_, _, _, _, ha, hac⟩ := open_some ho
      simp only [Option.isSome, if_true]
      refine ⟨h.kt, fun c b => updF_true h.gt, fun z hz => h.ek z (dropE_mem hz), fun c b hb => ?_, fun c => ?_, fun c hc => ?_⟩
      · rcases h.kc c b hb with ⟨z, hz, hzc⟩ | hg
        · by_cases e : z.ch = x.ch
          · exact .inr (by rw [← hzc, e]; simp)
          · exact .inl ⟨z, dropE_keep hz e, hzc⟩
        · exact .inr (by simp [hg])
      · unfold updF
        constructor
        · intro hu
          split at hu
          · rename_i e
            rw [e]; simp
          · exact List.mem_append.2 (.inl ((h.gg c).1 hu))
        · intro hm
          split
          · rfl
          · rename_i e
            rcases List.mem_append.1 hm with hm | hm
            · exact (h.gg c).2 hm
            · exact absurd (List.mem_singleton.1 hm) e
      · rcases List.mem_append.1 hc with hc | hc
        · exact h.sp c hc
        · rw [List.mem_singleton.1 hc, ← hac]
          exact hsp a ha
  · exact absurd hk2 hk
theorem gone_other (h : GoneI E G fK fG) (hst : PStep room x E G out er E' G') (hk : E.Pairwise (fun a b => a.ch ≠ b.ch)) (h0 : ¬ (x.kind = 0 ∧ er = 0)) (h2 : ¬ (x.kind = 2 ∧ er = 0)) : GoneI E' G' fK fG := by
  rcases hst with ⟨_, _, _, _, rfl, rfl⟩ | ⟨hk0, _, _, he, _, _⟩ | ⟨hk1, _, he, rfl, rfl⟩ | ⟨hk2, _, he, rfl, rfl⟩ | ⟨_, _, _, _, _, rfl, rfl⟩
  · exact h
  · exact absurd ⟨hk0, he⟩ h0
  · unfold useE
    rcases ho : openT x.ch E G' with _ | a
    · exact h
    · simp only
      split
      · exact h
      · split
        · exact h
        · obtain ⟨_, _, _, _, ha, hac⟩ := open_some ho
          refine ⟨h.kt, h.gt, fun z hz => ?_, fun c b hb => ?_, h.gg, h.sp⟩
          · rcases List.mem_append.1 hz with hz | hz
            · exact h.ek z (dropE_mem hz)
            · rw [List.mem_singleton.1 hz]
              exact h.ek a ha
          · rcases h.kc c b hb with ⟨z, hz, hzc⟩ | hg
            · by_cases e : z.ch = x.ch
              · exact .inl ⟨a.to x.seq, by simp, by rw [← hzc, e]; exact hac⟩
              · exact .inl ⟨z, List.mem_append.2 (.inl (dropE_keep hz e)), hzc⟩
            · exact .inr hg
  · rcases ho : openT x.ch E G with _ | a
    · exact h
    · exact absurd ⟨hk2, by rw [he]; exact (open_some ho).2.1⟩ h2
  · exact h
end
end Go.Proofs.Ytnicfiochnkjbaa
