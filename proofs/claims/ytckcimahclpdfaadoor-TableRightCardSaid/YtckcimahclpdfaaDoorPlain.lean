/- Plain laws of names: what the printed functions of labels compute, in closed form. -/
import Derived.Test.YtckcimahclpdfaaDoorMax6
import Derived.Test.YtckcimahclpdfaaDoorMax7
import Derived.Lib.ItoaLen
import Derived.Lib.IndexBytes
import Derived.Lib.PathFns
namespace Go.Proofs.YtckcimahclpdfaaDoor.Plain
open Go.RowKit Go.Proofs.YtckcimahclpdfaaDoor.Ma Go.Proofs.YtckcimahclpdfaaDoorW.PrintWords Go.Proofs.YtckcimahclpdfaaDoorW.PrintLast

theorem name_eq (s : ByteArray) : label_Name.f s = some (shortL s.data.toList 16) := rfl
theorem tag_eq (s : ByteArray) : label_Tag.f s = some (shortL s.data.toList 8) := rfl

/-- The digits of a number, by fuel. -/
def dig : Nat → Nat → List UInt8
  | 0, _ => []
  | k + 1, u => if u < 10 then [UInt8.ofNat (48 + u)] else dig k (u / 10) ++ [UInt8.ofNat (48 + u % 10)]
theorem dig_eq : ∀ (k u : Nat), u < 10 ^ (k + 1) → Lib.decDigits u = dig (k + 1) u
  | k, u, h => by
    rw [Lib.decDigits, dig]
    by_cases hu : u < 10
    · rw [dif_pos hu, if_pos hu]
    · rw [dif_neg hu, if_neg hu]
      cases k with
      | zero => exact absurd h (by omega)
      | succ j => rw [dig_eq j (u / 10) (by rw [Nat.pow_succ] at h; omega)]
theorem itoa_dig (g : Int) (h0 : 0 ≤ g) (h1 : g ≤ 999999) : Lib.itoa g = dig 6 g.toNat := by
  unfold Lib.itoa
  rw [if_neg (by omega), dig_eq 5 g.toNat (by omega)]
theorem dig_len : ∀ (k u : Nat), (dig k u).length ≤ k
  | 0, _ => by simp [dig]
  | k + 1, u => by
    rw [dig]
    split
    · simp
    · have := dig_len k (u / 10); simp; omega

/-- A revision's name, in closed form. -/
def revL (l : List UInt8) (g : Int) : List UInt8 := if shortL l 16 = true ∧ 1 ≤ g ∧ g ≤ 999999 then l ++ 45 :: dig 6 g.toNat else []
theorem short_le {l : List UInt8} {n : Int} (h : shortL l n = true) : (l.length : Int) ≤ n := by
  simp [shortL] at h; omega
theorem ba_ext {a b : ByteArray} (h : a.data.toList = b.data.toList) : a = b := by
  cases a; cases b; congr 1; exact Array.toList_inj.1 h
theorem rev_eq (s : ByteArray) (g : Int) (k : Nat) : label_Rev.f (k + 1) s g = some ⟨(revL s.data.toList g).toArray⟩ := by
  unfold label_Rev.f
  rw [name_eq, Option.bind_some]
  unfold revL
  by_cases h1 : shortL s.data.toList 16 = true
  · rw [if_pos h1]
    by_cases h2 : g < 1
    · rw [if_pos h2, if_neg (by omega)]; rfl
    · rw [if_neg h2]
      by_cases h3 : g > 999999
      · rw [decide_eq_true h3, if_neg (by omega)]; rfl
      · rw [decide_eq_false h3, if_pos ⟨h1, by omega, by omega⟩]
        have hl := short_le h1
        have hz : s.size = s.data.toList.length := rfl
        have hi := dig_len 6 g.toNat
        rw [label_Rev.j0, if_neg (by decide), if_pos (by omega)]
        unfold strconv_Itoa_47.f
        rw [if_pos (by omega), Option.bind_some, itoa_dig g (by omega) (by omega), if_pos]
        · congr 1
          apply ba_ext
          simp
        · have e : (s ++ (⟨#[45]⟩ : ByteArray)).size = s.size + 1 := by rw [ByteArray.size_append]; rfl
          have e2 : (⟨(dig 6 g.toNat).toArray⟩ : ByteArray).size = (dig 6 g.toNat).length := by simp [ByteArray.size]
          rw [e, e2]; omega
  · rw [if_neg h1, if_neg (fun h => h1 h.1)]; rfl

/-- How a text is parted: at its last '-'. -/
def splitL (l : List UInt8) (i : Nat) : ByteArray × Int × Bool :=
  match Lib.atoiAll (l.drop (i + 1)) with
  | .ok v => if revL (l.take i) v = l then (⟨(l.take i).toArray⟩, v, true) else (⟨#[]⟩, 0, false)
  | _ => (⟨#[]⟩, 0, false)
theorem take_ba (s : ByteArray) (i : Nat) : (s.extract 0 i) = ⟨(s.data.toList.take i).toArray⟩ := by
  apply ba_ext; rw [Lib.extract_data]; simp
theorem splitAt_eq (s : ByteArray) (i : Nat) : splitAt s i = some (splitL s.data.toList i) := by
  unfold splitAt splitL
  rw [Lib.extract_to_end]
  rcases Lib.atoiAll (s.data.toList.drop (i + 1)) with v | _ | _
  · simp only []
    rw [rev_eq _ _ 0, Option.bind_some, Lib.toList_data, Lib.toList_data, take_ba]
    by_cases h : revL (s.data.toList.take i) v = s.data.toList
    · rw [if_pos (by simpa using h), if_pos h]
    · rw [if_neg (by simpa using h), if_neg h]
  · rfl
  · rfl
def splitV (s : ByteArray) : ByteArray × Int × Bool := if Lib.lastIndexByte s 45 < 0 then (⟨#[]⟩, 0, false) else splitL s.data.toList (Lib.lastIndexByte s 45).toNat
theorem split_eq (s : ByteArray) (h : s.size ≤ 140737488351232) : label_Split.f s = some (splitV s) := by
  unfold label_Split.f splitV
  rw [if_pos h]
  by_cases h2 : Lib.lastIndexByte s 45 < 0
  · rw [if_pos h2, if_pos h2]
  · rw [if_neg h2, if_neg h2, splitAt_eq]
theorem w64_small (z : Int) (h0 : -9223372036854775808 ≤ z) (h1 : z < 9223372036854775808) : wrap64 z = z := by unfold wrap64; omega
/-- What 'within' answers lies within. -/
theorem wi_in (a b : Int) (h0 : 0 < b) (h1 : b ≤ 9223372036854775807) : 0 ≤ wi a b ∧ wi a b < b := by
  have h := wi_bd (a := a) (b := b) (j := wi a b) rfl h0 h1
  omega
end Go.Proofs.YtckcimahclpdfaaDoor.Plain
