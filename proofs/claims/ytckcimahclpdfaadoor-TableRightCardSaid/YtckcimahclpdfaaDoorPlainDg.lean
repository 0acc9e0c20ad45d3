/- Plain laws of revisions' names: put together, and parted, as the document says. -/
import Derived.Test.YtckcimahclpdfaaDoorMax20
import Derived.Test.YtckcimahclpdfaaDoorPlain
import Derived.Test.YtckcimahclpdfaaDoorPlainM
import Derived.Test.YtckcimahclpdfaaDoorPlainR
namespace Go.Proofs.YtckcimahclpdfaaDoor.Plain
open Go.RowKit Go.Proofs.YtckcimahclpdfaaDoor.Ma Go.Proofs.YtckcimahclpdfaaDoorW.PrintWords Go.Proofs.YtckcimahclpdfaaDoorW.PrintLast

theorem digits_eq : ∀ (j u k : Nat), u < 10 ^ (j + 1) → u < 1000000000 → j ≤ 10 → j + 1 ≤ k → damperref1_Digits.f k (u : Int) = some ⟨(dig (j + 1) u).toArray⟩
  | j, u, k, hu, hb, hj, hk => by
    obtain ⟨k, rfl⟩ : ∃ i, k = i + 1 := ⟨k - 1, by omega⟩
    rw [damperref1_Digits.f, dig, if_neg (by omega)]
    by_cases h : u < 10
    · rw [if_neg (by omega), if_pos h, w64_small _ (by omega) (by omega)]
      congr 1
      unfold strOfNums
      have : (((48 : Int) + (u : Int)) % 256).toNat = 48 + u := by omega
      simp [this]
    · rw [if_pos (by omega), if_neg h]
      cases j with
      | zero => exact absurd hu (by omega)
      | succ j =>
        have e1 : wrap64 (Int.tdiv (u : Int) 10) = ((u / 10 : Nat) : Int) := by
          rw [show Int.tdiv (u : Int) 10 = ((u / 10 : Nat) : Int) from rfl, w64_small _ (by omega) (by omega)]
        have e2 : Int.tmod (u : Int) 10 = ((u % 10 : Nat) : Int) := rfl
        have hp : u / 10 < 10 ^ (j + 1) := by rw [Nat.pow_succ] at hu; omega
        rw [e1, e2, digits_eq j (u / 10) k hp (by omega) (by omega) (by omega), Option.bind_some,
          digits_eq 0 (u % 10) k (by omega) (by omega) (by omega) (by omega), Option.bind_some]
        have l1 := dig_len (j + 1) (u / 10)
        have l2 := dig_len (0 + 1) (u % 10)
        have z1 : (⟨(dig (j + 1) (u / 10)).toArray⟩ : ByteArray).size = (dig (j + 1) (u / 10)).length := by simp [ByteArray.size]
        have z2 : (⟨(dig (0 + 1) (u % 10)).toArray⟩ : ByteArray).size = (dig (0 + 1) (u % 10)).length := by simp [ByteArray.size]
        rw [z1, z2, if_pos (by omega)]
        congr 1
        apply ba_ext
        have : dig (0 + 1) (u % 10) = [UInt8.ofNat (48 + u % 10)] := by rw [dig, if_pos (by omega)]
        rw [this]
        simp
end Go.Proofs.YtckcimahclpdfaaDoor.Plain
