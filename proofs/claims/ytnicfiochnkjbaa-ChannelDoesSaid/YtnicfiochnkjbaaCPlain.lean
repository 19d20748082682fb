/- Words as rows of atoms, in plain terms. -/
import Derived.Test.YtnicfiochnkjbaaC2
namespace Go.Proofs.Ytnicfiochnkjbaa

def pairs : List UInt8 → List Int
  | a :: b :: t => ((a.toNat : Int) * 256 + (b.toNat : Int)) :: pairs t
  | _ => []
def unp : List Int → List UInt8
  | [] => []
  | x :: t => UInt8.ofNat (x / 256).toNat :: UInt8.ofNat (x % 256).toNat :: unp t
def atomsR (s : ByteArray) : List Int := pairs s.data.toList
def ofR (l : List Int) : ByteArray := ⟨(unp l).toArray⟩

theorem pairs_length : ∀ l : List UInt8, (pairs l).length = l.length / 2
  | [] => rfl
  | [_] => by simp [pairs]
  | _ :: _ :: t => by simp only [pairs, List.length_cons, pairs_length t]; omega
theorem unp_length : ∀ l : List Int, (unp l).length = 2 * l.length
  | [] => rfl
  | _ :: t => by simp only [unp, List.length_cons, unp_length t]; omega
theorem pairs_get : ∀ (l : List UInt8) (i : Nat), i < l.length / 2 → (pairs l)[i]? = some (((l.getD (2 * i) 0).toNat : Int) * 256 + ((l.getD (2 * i + 1) 0).toNat : Int))
  | [], i, h => by simp at h
  | [_], i, h => by simp at h
  | a :: b :: t, 0, h => rfl
  | a :: b :: t, i + 1, h => by
    have := pairs_get t i (by simp only [List.length_cons] at h; omega)
    rw [show 2 * (i + 1) = 2 * i + 1 + 1 by omega, show 2 * i + 1 + 1 + 1 = (2 * i + 1) + 1 + 1 by omega]
    simpa [pairs] using this
theorem pairs_append : ∀ (a b : List UInt8), a.length % 2 = 0 → pairs (a ++ b) = pairs a ++ pairs b
  | [], b, _ => rfl
  | [_], b, h => by simp at h
  | x :: y :: t, b, h => by
    have := pairs_append t b (by simp only [List.length_cons] at h; omega)
    simp only [List.cons_append, pairs, this]
theorem unp_append : ∀ (a b : List Int), unp (a ++ b) = unp a ++ unp b
  | [], b => rfl
  | x :: t, b => by simp only [List.cons_append, unp, unp_append t b]
theorem pairs_u16 : ∀ (l : List UInt8), ∀ x ∈ pairs l, u16 x
  | [], x, h => by simp [pairs] at h
  | [_], x, h => by simp [pairs] at h
  | a :: b :: t, x, h => by
    simp only [pairs, List.mem_cons] at h
    rcases h with rfl | h
    · have := a.toNat_lt
      have := b.toNat_lt
      unfold u16
      omega
    · exact pairs_u16 t x h
theorem pairs_unp : ∀ (l : List Int), (∀ x ∈ l, u16 x) → pairs (unp l) = l
  | [], _ => rfl
  | x :: t, h => by
    have h1 := h x (List.mem_cons_self ..)
    have h2 := pairs_unp t (fun y hy => h y (List.mem_cons_of_mem _ hy))
    unfold u16 at h1
    simp only [unp, pairs, h2, UInt8.toNat_ofNat']
    congr 1
    omega
theorem unp_pairs : ∀ (l : List UInt8), l.length % 2 = 0 → unp (pairs l) = l
  | [], _ => rfl
  | [_], h => by simp at h
  | a :: b :: t, h => by
    have h2 := unp_pairs t (by simp only [List.length_cons] at h; omega)
    have := a.toNat_lt
    have := b.toNat_lt
    simp only [pairs, unp, h2]
    rw [show (((a.toNat : Int) * 256 + (b.toNat : Int)) / 256).toNat = a.toNat by omega, show (((a.toNat : Int) * 256 + (b.toNat : Int)) % 256).toNat = b.toNat by omega]
    simp
theorem pairs_take : ∀ (l : List UInt8) (n : Nat), pairs (l.take (2 * n)) = (pairs l).take n
  | l, 0 => by simp [pairs]
  | [], n + 1 => by simp [pairs]
  | [a], n + 1 => by rw [show 2 * (n + 1) = 2 * n + 1 + 1 by omega]; simp [pairs]
  | a :: b :: t, n + 1 => by
    rw [show 2 * (n + 1) = 2 * n + 1 + 1 by omega]
    simp only [List.take_succ_cons, pairs, pairs_take t n]
theorem pairs_drop : ∀ (l : List UInt8) (n : Nat), pairs (l.drop (2 * n)) = (pairs l).drop n
  | l, 0 => by simp
  | [], n + 1 => by simp [pairs]
  | [a], n + 1 => by rw [show 2 * (n + 1) = 2 * n + 1 + 1 by omega]; simp [pairs]
  | a :: b :: t, n + 1 => by
    rw [show 2 * (n + 1) = 2 * n + 1 + 1 by omega]
    simp only [List.drop_succ_cons, pairs, pairs_drop t n]

theorem size_list (s : ByteArray) : s.data.toList.length = s.size := rfl
theorem atoms_length (s : ByteArray) : (atomsR s).length = s.size / 2 := by unfold atomsR; rw [pairs_length, size_list]
theorem atoms_u16 (s : ByteArray) : ∀ x ∈ atomsR s, u16 x := pairs_u16 _
theorem atoms_of {l : List Int} (h : ∀ x ∈ l, u16 x) : atomsR (ofR l) = l := by unfold atomsR ofR; exact pairs_unp l h
theorem of_atoms {s : ByteArray} (h : s.size % 2 = 0) : ofR (atomsR s) = s := by
  unfold atomsR ofR
  rw [unp_pairs _ h]
theorem of_size (l : List Int) : (ofR l).size = 2 * l.length := unp_length l
theorem atoms_get {s : ByteArray} {i : Nat} (h : i < s.size / 2) : (atomsR s)[i]? = some (byteAt s (2 * i) * 256 + byteAt s (2 * i + 1)) := pairs_get _ i h
theorem at_eq (s : ByteArray) (i : Int) : atR s i = if 0 ≤ i then (atomsR s).getD i.toNat 0 else 0 := by
  unfold atR lenR
  by_cases h : 0 ≤ i
  · rw [if_pos h]
    by_cases h2 : i < (s.size : Int) / 2
    · rw [if_pos ⟨h, h2⟩, List.getD_eq_getElem?_getD, atoms_get (by omega), Option.getD_some, show (2 * i).toNat = 2 * i.toNat by omega, show (2 * i + 1).toNat = 2 * i.toNat + 1 by omega]
    · rw [if_neg (by omega), List.getD_eq_getElem?_getD, List.getElem?_eq_none (by rw [atoms_length]; omega), Option.getD_none]
  · rw [if_neg h, if_neg (by omega)]
theorem at_get {s : ByteArray} {i : Nat} (h : i < (atomsR s).length) : atR s i = (atomsR s)[i] := by
  rw [at_eq, if_pos (by omega), List.getD_eq_getElem?_getD, show (i : Int).toNat = i by omega, List.getElem?_eq_getElem h, Option.getD_some]
theorem bytes_eq {a b : ByteArray} (h : a.data.toList = b.data.toList) : a = b := ByteArray.ext (Array.toList_inj.mp h)
theorem extract_list (s : ByteArray) (i j : Nat) : (s.extract i j).data.toList = (s.data.toList.take j).drop i := by
  rw [ByteArray.data_extract, Array.toList_extract, List.extract_eq_take_drop]
  rw [List.drop_take]
theorem append_list (a b : ByteArray) : (a ++ b).data.toList = a.data.toList ++ b.data.toList := by
  rw [ByteArray.data_append, Array.toList_append]
theorem atoms_append {a : ByteArray} (b : ByteArray) (h : a.size % 2 = 0) : atomsR (a ++ b) = atomsR a ++ atomsR b := by
  unfold atomsR
  rw [append_list, pairs_append _ _ h]
theorem of_append (a b : List Int) : ofR (a ++ b) = ofR a ++ ofR b := by
  apply bytes_eq
  rw [append_list]
  simp [ofR, unp_append]
theorem atoms_extract (s : ByteArray) (i j : Nat) : atomsR (s.extract (2 * i) (2 * j)) = ((atomsR s).take j).drop i := by
  unfold atomsR
  rw [extract_list, pairs_drop, pairs_take]
end Go.Proofs.Ytnicfiochnkjbaa
