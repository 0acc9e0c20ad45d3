/- A table is not changed by what is asked of it, nor by a change of another one of the same. -/
import Derived.Test.YtckcimahclpdfaaDoorMax0
import Derived.Test.YtckcimahclpdfaaDoorMax10
import Derived.Test.YtckcimahclpdfaaDoorMax21
import Derived.Test.YtckcimahclpdfaaDoorPlainV
namespace Go.Proofs.YtckcimahclpdfaaDoor.Pure
open Go.RowKit Go.Proofs.YtckcimahclpdfaaDoor.Ma Go.Proofs.YtckcimahclpdfaaDoorW.PrintWords Go.Proofs.YtckcimahclpdfaaDoorW.PrintLast Go.Proofs.YtckcimahclpdfaaDoor.Plain
set_option linter.unusedVariables false
set_option linter.unusedSimpArgs false

theorem make_all' (ns ms : List Int) (hns : ns.length ≤ 9223372036854775807) (hms : ms.length ≤ 9223372036854775807) : ∃ l t, GoodS l ∧ GoodT t ∧ ∀ k, 40 ≤ k → damperlaw5_Make.f k ns ms = some (l, t) := by
  obtain ⟨l, t, hl, ht, he⟩ := make_ok ns ms hns hms 40 (by omega)
  refine ⟨l, t, hl, ht, fun k hk => ?_⟩
  have up : ∀ n, LeO (damperlaw5_Make.f 40 ns ms) (damperlaw5_Make.f (40 + n) ns ms) := by
    intro n
    induction n with
    | zero => exact LeO.refl _
    | succ n ih => exact fun r hr => damperlaw5_Make.mono ns ms (40 + n) r (ih r hr)
  have := up (k - 40) _ he
  rwa [show 40 + (k - 40) = k by omega] at this
theorem TableCopy : damperlaw5_TableCopy.Pure := by
  intro l0 l1 a2 w0 w1 _
  obtain ⟨l, t, hl, ht, hM⟩ := make_all' l0 l1 w0.1 w1.1
  have hS := small_of hl ht
  cases l with
  | nil => exact absurd hl.2.2 (by simp [sumS])
  | cons y l =>
    have hy := hl.2.1 y (by simp)
    have hU : Small (⟨y.f0, y.f1 + 1⟩ :: l) t := by
      refine ⟨hS.1, hS.2.1, fun x hx => ?_, hS.2.2.2⟩
      rcases List.mem_cons.1 hx with rfl | hx
      · exact ⟨(hS.2.2.1 y (by simp)).1, by show 0 ≤ y.f1 + 1; omega, by show y.f1 + 1 ≤ 999; omega⟩
      · exact hS.2.2.1 x (by simp [hx])
    refine ⟨3000, ?_⟩
    unfold damperlaw5_TableCopy.f
    rw [known_ok 3000 (by omega), Option.bind_some, if_pos rfl, hM 3000 (by omega), Option.bind_some, Option.bind_some]
    simp only
    rw [pick_eq hS a2 3000 (by omega), Option.bind_some, byTag_eq hS _ 3000 (by omega), Option.bind_some, hS.right, Option.bind_some, text_eq hS 3000 (by omega), Option.bind_some, if_pos (by simp), show (3000 : Nat) = 2999 + 1 from rfl, damperlaw5_TableCopy.j0, hM 2999 (by omega), Option.bind_some]
    simp only
    rw [rsameT_eq hS hS 2999 (by omega), Option.bind_some, sameB_refl, if_pos rfl]
    have e : ((y :: l).set ((0 : Int)).toNat ⟨(rd_T32 (y :: l) 0).f0, wrap64 ((rd_T32 (y :: l) 0).f1 + 1)⟩) = ⟨y.f0, y.f1 + 1⟩ :: l := by
      show (⟨y.f0, wrap64 (y.f1 + 1)⟩ : S32) :: l = _
      rw [w64_small _ (by omega) (by omega)]
    rw [e, sameT_eq hS hU 2999 (by omega), Option.bind_some]
    have n1 : sameB (y :: l) t (⟨y.f0, y.f1 + 1⟩ :: l) t = false := by
      rw [Bool.eq_false_iff]
      intro h
      have := (List.cons.inj ((sameB_eq hS hU).1 h).1).1
      have := congrArg S32.f1 this
      simp at this
      omega
    have n2 : rightB (⟨y.f0, y.f1 + 1⟩ :: l) t = false := by
      have hs := hl.2.2
      rw [sumS] at hs
      have : (sumS (⟨y.f0, y.f1 + 1⟩ :: l) == 100) = false := by
        rw [beq_eq_false_iff_ne, sumS]
        show y.f1 + 1 + sumS l ≠ 100
        omega
      rw [rightB, this, Bool.false_and, Bool.and_false, Bool.and_false]
    rw [n1, if_neg (by decide), text_eq hS 2999 (by omega), Option.bind_some, if_pos rfl, hU.right, Option.bind_some, n2]
    rfl
end Go.Proofs.YtckcimahclpdfaaDoor.Pure
