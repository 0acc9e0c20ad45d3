/- Of any configuration that may be, each number's ends may be, and one beyond may not. -/
import Derived.Test.YthdpnbfjpbiieaaDoorMax3
import Derived.Test.YthdpnbfjpbiieaaDoorMax27
import Derived.Test.YthdpnbfjpbiieaaDoorPlainK
namespace Go.Proofs.YthdpnbfjpbiieaaDoor.Pure
open Go.RowKit Go.Proofs.YthdpnbfjpbiieaaDoor.Ma Go.Proofs.YthdpnbfjpbiieaaDoorW.PrintWords Go.Proofs.YthdpnbfjpbiieaaDoorW.PrintLast Go.Proofs.YthdpnbfjpbiieaaDoor.Plain

theorem cfgE_no {n : List UInt8} {i c m x g : Int} (hn : shortL n 16 = true) (h : ¬ (0 ≤ i ∧ i ≤ 255 ∧ 1 ≤ c ∧ c ≤ 8 ∧ 1 ≤ x ∧ x ≤ 10 ∧ 0 ≤ m ∧ m ≤ x ∧ 0 ≤ g ∧ g ≤ 30)) : cfgE n i c m x g = 2 := by
  unfold cfgE
  rw [if_pos hn, cfgOk_no h]
  rfl
theorem edges_j0 (k : Nat) (n : ByteArray) (i c m x g i2 c2 m2 x2 g2 : Int) (hn : shortL n.data.toList 16 = true) (h1 : 0 ≤ i ∧ i ≤ 255 ∧ 1 ≤ c ∧ c ≤ 8 ∧ 1 ≤ x ∧ x ≤ 10 ∧ 0 ≤ m ∧ m ≤ x ∧ 0 ≤ g ∧ g ≤ 30)
    (h2 : ¬ (0 ≤ i2 ∧ i2 ≤ 255 ∧ 1 ≤ c2 ∧ c2 ≤ 8 ∧ 1 ≤ x2 ∧ x2 ≤ 10 ∧ 0 ≤ m2 ∧ m2 ≤ x2 ∧ 0 ≤ g2 ∧ g2 ≤ 30)) : damperlaw2_SpecEdges.j0 (k + 2) n i c m x g n i2 c2 m2 x2 g2 = some true := by
  rw [damperlaw2_SpecEdges.j0, cfg_eq, Option.bind_some, cfg_eq, Option.bind_some, cfgE_no hn h2, if_pos]
  · rfl
  · unfold cfgE; rw [if_pos hn, if_pos (cfgOk_yes h1)]
theorem SpecEdges : damperlaw2_SpecEdges.Pure := by
  intro a0 a1_0 a1_1 a1_2 a1_3 a1_4 a1_5 _ _ _ _ _ _ _
  refine ⟨50, ?_⟩
  unfold damperlaw2_SpecEdges.f
  rw [show (50 : Nat) = 40 + 10 from rfl, known_ok, Option.bind_some, if_pos rfl]
  obtain ⟨n, i, c, m, x, g, hc, hn, h⟩ := config_ok a1_0 a1_1 a1_2 a1_3 a1_4 a1_5 0
  rw [hc, Option.bind_some]
  simp only
  have hw := wi_in a0 6 (by decide) (by decide)
  generalize wi a0 6 = t at hw ⊢
  have e : ∀ {a b : Int}, 40 + 10 = 48 + 2 := fun {_ _} => rfl
  by_cases h0 : t = 0
  · rw [if_pos h0]; exact edges_j0 48 _ _ _ _ _ _ _ _ _ _ _ hn.1 (by omega) (by omega)
  rw [if_neg h0]
  by_cases h0 : t = 1
  · rw [if_pos h0]; exact edges_j0 48 _ _ _ _ _ _ _ _ _ _ _ hn.1 (by omega) (by omega)
  rw [if_neg h0]
  by_cases h0 : t = 2
  · rw [if_pos h0]; exact edges_j0 48 _ _ _ _ _ _ _ _ _ _ _ hn.1 (by omega) (by omega)
  rw [if_neg h0]
  by_cases h0 : t = 3
  · rw [if_pos h0, w64_small _ (by omega) (by omega)]; exact edges_j0 48 _ _ _ _ _ _ _ _ _ _ _ hn.1 (by omega) (by omega)
  rw [if_neg h0]
  by_cases h0 : t = 4
  · rw [if_pos h0]; exact edges_j0 48 _ _ _ _ _ _ _ _ _ _ _ hn.1 (by omega) (by omega)
  rw [if_neg h0]
  by_cases h0 : t = 5
  · rw [if_pos h0]; exact edges_j0 48 _ _ _ _ _ _ _ _ _ _ _ hn.1 (by omega) (by omega)
  omega
end Go.Proofs.YthdpnbfjpbiieaaDoor.Pure
