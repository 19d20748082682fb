/- The channels' table beside the document's: plain facts; acts. -/
import Derived.Test.YtnicfiochnkjbaaU4
namespace Go.Proofs.Ytnicfiochnkjbaa
open Go.RowKit
def TEnt.pr (x : TEnt) : Int × List ByteArray × Int := (x.ch, x.who, x.last)
def SameT (E I : List TEnt) : Prop := E.map TEnt.pr = I.map TEnt.pr
section
variable {E I E' : List TEnt} {G G' : List Int} {c room seq out er : Int} {who : List ByteArray} {x : TAct}
theorem SameT.length (h : SameT E I) : E.length = I.length := by
  have := congrArg List.length h
  rwa [List.length_map, List.length_map] at this
theorem SameT.getElem (h : SameT E I) {j : Nat} (h1 : j < E.length) (h2 : j < I.length) : E[j].pr = I[j].pr := by
  have h3 : (E.map TEnt.pr)[j]? = (I.map TEnt.pr)[j]? := by rw [h]
  rw [List.getElem?_map, List.getElem?_map, List.getElem?_eq_getElem h1, List.getElem?_eq_getElem h2] at h3
  simpa using h3
theorem SameT.place (h : SameT E I) (c : Int) : placeT c E = placeT c I := by
  have e : ∀ L : List TEnt, placeT c L = (L.map TEnt.pr).findIdx? (fun q => q.1 == c) := fun L => by
    unfold placeT
    rw [List.findIdx?_map]
    rfl
  rw [e, e, h]
theorem SameT.found (h : SameT E I) (c : Int) : (foundT c E).map TEnt.pr = (foundT c I).map TEnt.pr := by
  have e : ∀ L : List TEnt, (foundT c L).map TEnt.pr = (L.map TEnt.pr).find? (fun q => q.1 == c) := fun L => by
    unfold foundT
    rw [List.find?_map]
    rfl
  rw [e, e, h]
theorem SameT.open_ (h : SameT E I) (c : Int) (G : List Int) : (openT c E G).map TEnt.pr = (openT c I G).map TEnt.pr := by
  unfold openT
  split
  · rfl
  · exact h.found c
theorem isSome_of_map {α β : Type} {f : α → β} {a b : Option α} (h : a.map f = b.map f) : a.isSome = b.isSome := by
  cases a <;> cases b <;> simp at h ⊢
theorem SameT.getEr (h : SameT E I) (c : Int) (G : List Int) : getEr c E G = getEr c I G := by
  unfold Proofs.Ytnicfiochnkjbaa.getEr isIn
  rw [show (E.find? (fun x => x.ch == c)).isSome = (I.find? (fun x => x.ch == c)).isSome from isSome_of_map (h.found c)]
theorem SameT.openEr (h : SameT E I) (c : Int) (who : List ByteArray) (G : List Int) : openEr c who E G = openEr c who I G := by
  unfold Proofs.Ytnicfiochnkjbaa.openEr
  rw [isSome_of_map (h.found c)]
theorem SameT.outT (h : SameT E I) (room : Int) : outT room E = outT room I := by
  unfold Proofs.Ytnicfiochnkjbaa.outT
  rw [h.length]
  split
  · cases E with
    | nil => cases I with
      | nil => rfl
      | cons b I => simp [SameT] at h
    | cons a E => cases I with
      | nil => simp [SameT] at h
      | cons b I =>
        have h' : a.pr = b.pr ∧ E.map TEnt.pr = I.map TEnt.pr := by simpa [SameT] using h
        exact congrArg Prod.fst h'.1
  · rfl
theorem SameT.cutT (h : SameT E I) (room : Int) : SameT (cutT room E) (cutT room I) := by
  unfold Proofs.Ytnicfiochnkjbaa.cutT
  rw [h.length]
  split
  · unfold SameT at h ⊢
    rw [List.map_tail, List.map_tail, h]
  · exact h
theorem SameT.goneT (h : SameT E I) (room : Int) (G : List Int) : goneT room E G = goneT room I G := by
  unfold Proofs.Ytnicfiochnkjbaa.goneT
  rw [h.length, h.outT]
theorem SameT.push (h : SameT E I) {a b : TEnt} (hp : a.pr = b.pr) : SameT (E ++ [a]) (I ++ [b]) := by
  unfold SameT at h ⊢
  rw [List.map_append, List.map_append, h, List.map_singleton, List.map_singleton, hp]
theorem SameT.dropE (h : SameT E I) (c : Int) : SameT (dropE c E) (dropE c I) := by
  unfold Proofs.Ytnicfiochnkjbaa.dropE
  rw [h.place c]
  rcases placeT c I with _ | i
  · exact h
  · simp only
    unfold SameT at h ⊢
    rw [List.eraseIdx_eq_take_drop_succ, List.eraseIdx_eq_take_drop_succ, List.map_append, List.map_append, List.map_take, List.map_take, List.map_drop, List.map_drop, h]
theorem SameT.useEr (h : SameT E I) (c seq : Int) (G : List Int) : useEr c seq E G = useEr c seq I G := by
  have ho := h.open_ c G
  have hg := h.getEr c G
  unfold Proofs.Ytnicfiochnkjbaa.useEr
  rcases h1 : openT c E G with _ | a <;> rcases h2 : openT c I G with _ | b <;> rw [h1, h2] at ho
  · exact hg
  · simp at ho
  · simp at ho
  · have : a.pr = b.pr := by simpa using ho
    have hl : a.last = b.last := congrArg (fun q => q.2.2) this
    simp only
    rw [hl]
theorem SameT.useE (h : SameT E I) (c seq : Int) (G : List Int) : SameT (useE c seq E G) (useE c seq I G) := by
  have ho := h.open_ c G
  unfold Proofs.Ytnicfiochnkjbaa.useE
  rcases h1 : openT c E G with _ | a <;> rcases h2 : openT c I G with _ | b <;> rw [h1, h2] at ho
  · exact h
  · simp at ho
  · simp at ho
  · have hp : a.pr = b.pr := by simpa using ho
    have hl : a.last = b.last := congrArg (fun q => q.2.2) hp
    simp only
    rw [hl]
    split
    · exact h
    · split
      · exact h
      · refine (h.dropE c).push ?_
        have h3 : a.ch = b.ch := congrArg (fun q => q.1) hp
        have h4 : a.who = b.who := congrArg (fun q => q.2.1) hp
        show (a.ch, a.who, seq) = (b.ch, b.who, seq)
        rw [h3, h4]
theorem SameT.whoT (h : SameT E I) (c : Int) (G : List Int) : whoT c E G = whoT c I G := by
  have ho := h.open_ c G
  unfold Proofs.Ytnicfiochnkjbaa.whoT
  rcases h1 : openT c E G with _ | a <;> rcases h2 : openT c I G with _ | b <;> rw [h1, h2] at ho
  · simp at ho
  · simp at ho
  · have hp : a.pr = b.pr := by simpa using ho
    exact congrArg (fun q => q.2.1) hp
theorem SameT.lastT (h : SameT E I) (c : Int) (G : List Int) : lastT c E G = lastT c I G := by
  have ho := h.open_ c G
  unfold Proofs.Ytnicfiochnkjbaa.lastT
  rcases h1 : openT c E G with _ | a <;> rcases h2 : openT c I G with _ | b <;> rw [h1, h2] at ho
  · simp at ho
  · simp at ho
  · have hp : a.pr = b.pr := by simpa using ho
    exact congrArg (fun q => q.2.2) hp
theorem last19_eq (hd : ∀ x ∈ I, x.ch ∉ G) (c : Int) : last19 c I = Proofs.Ytnicfiochnkjbaa.lastT c I G := by
  unfold last19 Proofs.Ytnicfiochnkjbaa.lastT openT
  rcases hg : goneB c G with _ | _
  · rfl
  · rcases hf : foundT c I with _ | a
    · rfl
    · have hm := List.mem_of_find?_eq_some hf
      have hc : a.ch = c := by simpa using List.find?_some hf
      have := hd a hm
      rw [hc] at this
      unfold goneB at hg
      exact absurd (of_decide_eq_true hg) this
theorem SameT.mem (h : SameT E I) {b : TEnt} (hb : b ∈ I) : ∃ a ∈ E, a.pr = b.pr := by
  have : b.pr ∈ E.map TEnt.pr := by rw [h]; exact List.mem_map_of_mem hb
  obtain ⟨a, ha, e⟩ := List.mem_map.1 this
  exact ⟨a, ha, e⟩
theorem SameT.dis (h : SameT E I) (hd : ∀ x ∈ E, x.ch ∉ G) : ∀ x ∈ I, x.ch ∉ G := fun b hb => by
  obtain ⟨a, ha, e⟩ := h.mem hb
  have : a.ch = b.ch := congrArg (fun q => q.1) e
  rw [← this]
  exact hd a ha
theorem PStep.few (h : PStep room x E G out er E' G') : G'.length ≤ G.length + 1 := by
  rcases h with ⟨_, _, _, _, _, rfl⟩ | ⟨_, _, _, _, _, rfl⟩ | ⟨_, _, _, _, rfl⟩ | ⟨_, _, _, _, rfl⟩ | ⟨_, _, _, _, _, _, rfl⟩
  · omega
  · unfold Proofs.Ytnicfiochnkjbaa.goneT
    split
    · simp
    · omega
  · omega
  · split
    · simp
    · omega
  · omega
end
/-- What an act does to the document's table. -/
def RefP (W : World) (base r : Nat) (room : Int) (I E' : List TEnt) (G' : List Int) (w' : World) : Prop :=
  ∃ I', RefT w' base r room I' G' ∧ SameT E' I' ∧ Turned (UFoot base W) W w' ∧ ∀ y ∈ I', (∃ z ∈ I, z.ownB = y.ownB) ∨ ∀ g, y.ownB = some g → W.heap.size ≤ g
section
variable {w W w' : World} {base r : Nat} {E I E' : List TEnt} {G G' : List Int} {c room seq out er : Int} {who : List ByteArray} {x : TAct}
theorem start_ref (hF : RefT W base r room I G) (hS : SameT E I) (hst : PStep room x E G out er E' G') (hk0 : x.kind = 0) (hI : I.length ≤ 1000) (hG : G.length ≤ 1000) (hroom : 1 ≤ room) (hd : ∀ x ∈ E, x.ch ∉ G) (A : Option Addr) (cp : Nat) (hc : u16 x.ch) (hl : x.who.length ≤ 1000) (hs : ∀ s ∈ x.who, s.size ≤ 1000000) (hr : ReadsT Value.string W W.heap.size 1 A x.who) (hrw : ∀ b o, 0 < x.who.length → A = some ⟨b, o, none⟩ → b < W.heap.size → ¬ UFoot base W b) :
    Calls Try.prog 32 #[.pointer (some ⟨r, 0, none⟩), .int .u16 x.ch, .slice A x.who.length cp] W fun e w' => e = .returned (.tuple #[.int .u16 out, .int .i64 er]) ∧ RefP W base r room I E' G' w' := by
  refine (start19_any hF hI hG hc hroom (hS.dis hd) A cp hl hs hr hrw).mono fun e w' hp => ?_
  rw [Start19, ← hS.openEr] at hp
  rcases hst with ⟨_, h1, rfl, rfl, rfl, rfl⟩ | ⟨_, h1, rfl, rfl, ⟨y, y1, y2, y3, rfl⟩, rfl⟩ | ⟨hk, _⟩ | ⟨hk, _⟩ | ⟨hk, _⟩
  · rcases hp with ⟨_, he, hR, hK⟩ | ⟨h2, _⟩
    · exact ⟨he, I, hR, hS, hK.mono (fun _ _ h => h.elim), fun y hy => .inl ⟨y, hy, rfl⟩⟩
    · exact absurd h2 h1
  · rcases hp with ⟨h2, _⟩ | ⟨_, z, z1, z2, z3, z4, he, hR, hT⟩
    · exact absurd h1 h2
    · refine ⟨by rw [hS.outT]; exact he, _, by rw [hS.goneT]; exact hR, (hS.cutT room).push ?_, hT, fun q hq => ?_⟩
      · unfold TEnt.pr
        rw [y1, y2, y3, z1, z2, z3]
      · rcases List.mem_append.1 hq with hq | hq
        · exact .inl ⟨q, cut_mem hq, rfl⟩
        · rw [List.mem_singleton.1 hq]
          exact .inr z4
  · omega
  · omega
  · exact absurd hk0 hk
theorem use_ref (hF : RefT W base r room I G) (hS : SameT E I) (hst : PStep room x E G out er E' G') (hk1 : x.kind = 1) (hI : I.length ≤ 1000) (hG : G.length ≤ 1000) :
    Calls Try.prog 33 #[.pointer (some ⟨r, 0, none⟩), .int .u16 x.ch, .int .i64 x.seq] W fun e w' => e = .returned (.int .i64 er) ∧ out = 0 ∧ RefP W base r room I E' G' w' := by
  refine (use19_any hF (by omega) (by omega) x.seq).mono fun e w' hp => ?_
  obtain ⟨he, hR, hT⟩ := hp
  rw [← hS.useEr] at he
  rcases hst with ⟨h, _⟩ | ⟨h, _⟩ | ⟨_, h2, rfl, rfl, rfl⟩ | ⟨h, _⟩ | ⟨_, h, _⟩
  · omega
  · omega
  · exact ⟨he, h2, _, hR, hS.useE _ _ _, hT, fun y hy => .inl (useE_own y hy)⟩
  · omega
  · exact absurd hk1 h
theorem close_ref (hF : RefT W base r room I G) (hS : SameT E I) (hst : PStep room x E G out er E' G') (hk2 : x.kind = 2) (hI : I.length ≤ 1000) (hG : G.length ≤ 1000) (hc : u16 x.ch) :
    Calls Try.prog 34 #[.pointer (some ⟨r, 0, none⟩), .int .u16 x.ch] W fun e w' => e = .returned (.int .i64 er) ∧ out = 0 ∧ RefP W base r room I E' G' w' := by
  refine (close19_any hF (by omega) (by omega) hc).mono fun e w' hp => ?_
  obtain ⟨he, hR, hT⟩ := hp
  rw [← hS.getEr] at he
  have hso := isSome_of_map (hS.open_ x.ch G)
  rw [← hso] at hR
  rcases hst with ⟨h, _⟩ | ⟨h, _⟩ | ⟨h, _⟩ | ⟨_, h2, rfl, rfl, rfl⟩ | ⟨_, _, h, _⟩
  · omega
  · omega
  · omega
  · refine ⟨he, h2, _, hR, ?_, hT, fun y hy => .inl ⟨y, ?_, rfl⟩⟩
    · split
      · exact hS.dropE _
      · exact hS
    · split at hy
      · exact dropE_mem hy
      · exact hy
  · exact absurd hk2 h
theorem none_ref (hS : SameT E I) (hst : PStep room x E G out er E' G') (h0 : x.kind ≠ 0) (h1 : x.kind ≠ 1) (h2 : x.kind ≠ 2) : out = 0 ∧ er = 0 ∧ G' = G ∧ SameT E' I := by
  rcases hst with ⟨h, _⟩ | ⟨h, _⟩ | ⟨h, _⟩ | ⟨h, _⟩ | ⟨_, _, _, h3, h4, rfl, h5⟩
  · exact absurd h h0
  · exact absurd h h0
  · exact absurd h h1
  · exact absurd h h2
  · exact ⟨h3, h4, h5, hS⟩
end
end Go.Proofs.Ytnicfiochnkjbaa
