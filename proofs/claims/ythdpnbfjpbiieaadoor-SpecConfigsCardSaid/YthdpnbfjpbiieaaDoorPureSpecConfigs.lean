/- Any configuration, and one that may be with one thing turned, is allowed or refused by the program as by the document. -/
import Derived.Test.YthdpnbfjpbiieaaDoorMax18
import Derived.Test.YthdpnbfjpbiieaaDoorPlainK
namespace Go.Proofs.YthdpnbfjpbiieaaDoor.Pure
open Go.RowKit Go.Proofs.YthdpnbfjpbiieaaDoor.Ma Go.Proofs.YthdpnbfjpbiieaaDoorW.PrintWords Go.Proofs.YthdpnbfjpbiieaaDoorW.PrintLast Go.Proofs.YthdpnbfjpbiieaaDoor.Plain

theorem configs_j1 (k : Nat) (n : ByteArray) (hn : n.size ≤ 100) (i c m x g : Int) : damperlaw2_SpecConfigs.j1 (k + 120) n i c m x g = some true := by
  have hz : n.size = n.data.toList.length := rfl
  rw [damperlaw2_SpecConfigs.j1, cfg_eq, Option.bind_some, rcfg_eq _ _ (by omega) (by omega), Option.bind_some, beq_self_eq_true]
theorem SpecConfigs : damperlaw2_SpecConfigs.Pure := by
  intro a0_0 a0_1 a0_2 a0_3 a0_4 a0_5 a1_0 a1_1 a1_2 a1_3 a1_4 a1_5 a2 a3 a4 l5 _ _ _ _ _ _ _ _ _ _ _ _ _ _ _ _
  refine ⟨200, ?_⟩
  unfold damperlaw2_SpecConfigs.f
  rw [show (200 : Nat) = 190 + 10 from rfl, known_ok, Option.bind_some, if_pos rfl]
  by_cases hs : (a0_0.size : Int) > 100
  · rw [if_pos hs]
  have hz : a0_0.size = a0_0.data.toList.length := rfl
  obtain ⟨n, i, c, m, x, g, hc, h⟩ := config_ok a1_0 a1_1 a1_2 a1_3 a1_4 a1_5 a2
  rw [if_neg hs, hc, Option.bind_some, cfg_eq, Option.bind_some, rcfg_eq _ _ (by omega) (by omega), Option.bind_some, if_pos rfl]
  simp only
  rw [cfg_eq, Option.bind_some, cfgE_ok h, show ((0 : Int) != 0) = false from rfl, show (190 + 10 : Nat) = (79 + 120) + 1 from rfl, damperlaw2_SpecConfigs.j0, if_neg (by decide)]
  have hn : n.size ≤ 100 := by omega
  have w4 := wi_in a4 4 (by decide) (by decide)
  have w5 := wi_in a4 5 (by decide) (by decide)
  have w7 := wi_in a4 7 (by decide) (by decide)
  obtain ⟨r, hr, r2⟩ := text_ok l5
  simp only [Option.bind_some, List.length_cons, List.length_nil]
  have q4 : wi a4 4 < ((0 + 1 + 1 + 1 + 1 : Nat) : Int) := w4.2
  have q5 : wi a4 5 < ((0 + 1 + 1 + 1 + 1 + 1 : Nat) : Int) := w5.2
  have q7 : wi a4 7 < ((0 + 1 + 1 + 1 + 1 + 1 + 1 + 1 : Nat) : Int) := w7.2
  rw [hr _ (by omega), Option.bind_some]
  simp only [if_pos w4.1, if_pos w5.1, if_pos w7.1, if_pos q4, if_pos q5, if_pos q7]
  rw [configs_j1 79 r (by omega), configs_j1 79 n hn, configs_j1 79 n hn, configs_j1 79 n hn, configs_j1 79 n hn, configs_j1 79 n hn, configs_j1 79 n hn]
  (repeat' split) <;> rfl
end Go.Proofs.YthdpnbfjpbiieaaDoor.Pure
