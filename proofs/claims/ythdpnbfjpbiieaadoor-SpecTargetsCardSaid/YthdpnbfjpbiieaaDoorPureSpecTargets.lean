/- Each of the fifteen rows of targets is refused, or allowed, as the list says; with a name that is none, with a number that may not be, the route is refused. -/
import Derived.Test.YthdpnbfjpbiieaaDoorMax13
import Derived.Test.YthdpnbfjpbiieaaDoorMax14
import Derived.Test.YthdpnbfjpbiieaaDoorMax23
import Derived.Test.YthdpnbfjpbiieaaDoorMax27
import Derived.Test.YthdpnbfjpbiieaaDoorPlainK
namespace Go.Proofs.YthdpnbfjpbiieaaDoor.Pure
open Go.RowKit Go.Proofs.YthdpnbfjpbiieaaDoor.Ma Go.Proofs.YthdpnbfjpbiieaaDoorW.PrintWords Go.Proofs.YthdpnbfjpbiieaaDoorW.PrintLast Go.Proofs.YthdpnbfjpbiieaaDoor.Plain

theorem tg_fits : ∀ j : Nat, j < 15 → ∀ t ∈ tgRow (j : Int), t.f0.size ≤ 10 ∧ t.f1.size ≤ 10 := by decide
theorem tg_said : ∀ j : Nat, j < 15 → routeE ⟨#[114]⟩ ⟨#[97]⟩ (tgRow (j : Int)) 0 = tgErr (j : Int) ∧ routeE ⟨#[114]⟩ ⟨#[45]⟩ (tgRow (j : Int)) 0 = 1 ∧ routeE ⟨#[114]⟩ ⟨#[97]⟩ (tgRow (j : Int)) 61 = 2 := by decide +kernel
theorem SpecTargets : damperlaw2_SpecTargets.Pure := by
  intro a0 _
  refine ⟨200, ?_⟩
  unfold damperlaw2_SpecTargets.f
  have w := wi_in a0 15 (by decide) (by decide)
  generalize wi a0 15 = i at w ⊢
  obtain ⟨j, rfl⟩ := Int.eq_ofNat_of_zero_le w.1
  have hj : j < 15 := by omega
  have hf := tg_fits j hj
  have hs := tg_said j hj
  have hd : ∀ s : ByteArray, s.size ≤ 10 → s.data.toList.length ≤ 10 := fun s h => h
  have r1 : ∀ (n c : ByteArray) (roll : Int), spec_Route.f 200 n c (tgRow (j : Int)) roll = some (routeE n c (tgRow (j : Int)) roll) := fun n c roll => route_eq 200 (by decide) n c _ roll (fun t ht => by have := hf t ht; omega)
  have r2 : damperref2_Route.f 200 ⟨#[114]⟩ ⟨#[97]⟩ (tgRow (j : Int)) 0 = some (routeE ⟨#[114]⟩ ⟨#[97]⟩ (tgRow (j : Int)) 0) := rroute_eq 200 100 (by decide) _ _ _ 0 ⟨by decide, by decide⟩ ⟨by decide, by decide⟩ (fun t ht => by
    have h := hf t ht
    have a := hd _ h.1
    have b := hd _ h.2
    exact ⟨by omega, by omega, by omega, by omega⟩)
  have hk : damperlaw2_known.f 200 = some true := known_ok 190
  rw [r1, r1, r1, r2, hs.1, hs.2.1, hs.2.2, if_pos ⟨hk, rfl, rfl, rfl, rfl⟩]
end Go.Proofs.YthdpnbfjpbiieaaDoor.Pure
