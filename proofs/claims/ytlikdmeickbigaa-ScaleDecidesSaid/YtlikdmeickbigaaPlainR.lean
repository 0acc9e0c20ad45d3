/- The reference's Decide comes to the same whole numbers as the program's. Conditions: the bounds of each lemma. -/
import Derived.Test.YtlikdmeickbigaaMax14
import Derived.Test.YtlikdmeickbigaaPlain
namespace Go.Proofs.Ytlikdmeickbigaa.Plain
open Go.RowKit Go.Proofs.Ytlikdmeickbigaa.Ma Go.Proofs.YtlikdmeickbigaaW.PrintWords Go.Proofs.YtlikdmeickbigaaW.PrintLast Go.Proofs.YtlikdmeickbigaaW.PrintMore

theorem ref_j2 (k : Nat) (ready m : Int) (f : Bool) (nm : ByteArray) (i c lo hi g w l : Int) (h0 : 0 ≤ ready) (h1 : ready ≤ 1000000) (hm : 0 ≤ m) (hm2 : m ≤ 1000000) :
    damperref10_Decide.j2 (k + 4) ready m f nm i c lo hi g w l = some (lastOf (if f = true then 1 else w) ready m lo hi, l) := by
  simp only [damperref10_Decide.j2, damperref10_Decide.j3, damperref10_Decide.j4, damperref10_Decide.j5, damperref10_Decide.j6, damperref10_Decide.j7, damperref10_Decide.j8]
  rw [half h0 h1, wrap_id (by omega) (by omega)]
  unfold lastOf
  split <;> rfl

theorem ref_j1 (k : Nat) (ready busy idle m want left : Int) (nm : ByteArray) (i c lo hi g w l : Int) (h0 : 0 ≤ ready) (h1 : ready ≤ 1000000) (hm : 0 ≤ m) (hm2 : m ≤ 1000000) :
    damperref10_Decide.j1 (k + 5) ready busy idle m want left nm i c lo hi g w l = some (lastOf (oneOf w want busy idle g) ready m lo hi, l) := by
  simp only [damperref10_Decide.j1]
  simp only [ref_j2 k ready m _ nm i c lo hi g w l h0 h1 hm hm2]
  unfold oneOf
  by_cases c1 : w = 0
  · by_cases c2 : busy > 0
    · simp [c1, c2]
    · by_cases c3 : want > 0
      · simp [c1, c2, c3]
      · simp [c1, c2, c3]
  · simp [c1]

theorem mx_swap (a b : Int) : mx a b = mx b a := by unfold mx; split <;> split <;> omega
theorem mx3 (a b c : Int) : mx (mx a b) c = mx (mx c a) b := by unfold mx; repeat' split <;> omega

theorem ref_some (k : Nat) (want left : Int) (nm : ByteArray) (i c lo hi g ready busy st sts sh shs idle : Int) (hl : 0 ≤ left ∧ left ≤ 6) (hc : 1 ≤ c ∧ c ≤ 8) (hr : 0 ≤ ready ∧ ready ≤ 1000000)
    (h1 : 0 ≤ st ∧ st ≤ 1000000000) (h2 : 0 ≤ sts ∧ sts ≤ 10000000) (h3 : 0 ≤ sh ∧ sh ≤ 1000000000) (h4 : 0 ≤ shs ∧ shs ≤ 10000000) :
    damperref10_Decide.f (k + 6) want left nm i c lo hi g ready busy st sts sh shs idle =
      some (decW want left lo hi g ready busy (need st sts c) (need sh shs c) idle, panicOf left (need sh shs c) (mx 1 ready)) := by
  have hm := mx_range (a := 1) (b := ready) 0 1000000 ⟨by omega, by omega⟩ hr
  simp only [damperref10_Decide.f]
  rw [need_ref st sts c h1.1 h1.2 h2.1 h2.2 hc.1 hc.2, need_ref sh shs c h3.1 h3.2 h4.1 h4.2 hc.1 hc.2]
  simp only [Option.bind_some]
  rw [wrap_id (a := 2 * mx 1 ready) (by omega) (by omega), wrap_id (a := left - 1) (by omega) (by omega)]
  have key : ∀ w l, damperref10_Decide.j0 (k + 6) ready busy idle (need st sts c) (need sh shs c) (mx 1 ready) want left nm i c lo hi g w l =
      some (lastOf (oneOf (if l > 0 then mx (mx want (need st sts c)) (need sh shs c) else w) want busy idle g) ready (mx 1 ready) lo hi, l) := by
    intro w l
    simp only [damperref10_Decide.j0]
    simp only [ref_j1 k ready busy idle (mx 1 ready) want left nm i c lo hi g _ _ hr.1 hr.2 hm.1 hm.2]
    rw [mx3]
    split <;> rfl
  simp only [key]
  unfold decW wantOf panicOf
  rw [mx_swap 0]
  split <;> rfl

end Go.Proofs.Ytlikdmeickbigaa.Plain
