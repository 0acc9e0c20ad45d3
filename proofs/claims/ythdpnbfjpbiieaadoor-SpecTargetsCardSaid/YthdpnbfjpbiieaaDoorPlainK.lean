/- Plain laws of the statements' own parts: the chapter's example; a configuration that may be. -/
import Derived.Test.YthdpnbfjpbiieaaDoorMax3
import Derived.Test.YthdpnbfjpbiieaaDoorMax14
import Derived.Test.YthdpnbfjpbiieaaDoorPlainS
namespace Go.Proofs.YthdpnbfjpbiieaaDoor.Plain
open Go.RowKit Go.Proofs.YthdpnbfjpbiieaaDoor.Ma Go.Proofs.YthdpnbfjpbiieaaDoorW.PrintWords Go.Proofs.YthdpnbfjpbiieaaDoorW.PrintLast

/-- The names of configurations that the statements draw from. -/
def cnames : List ByteArray := [(⟨#[119, 101, 98]⟩ : ByteArray), (⟨#[97, 112, 105]⟩ : ByteArray), (⟨#[97, 45, 98]⟩ : ByteArray)]
def fnames : List ByteArray := [(⟨#[102, 114, 111, 110, 116]⟩ : ByteArray), (⟨#[98, 97, 99, 107]⟩ : ByteArray), (⟨#[114, 45, 49]⟩ : ByteArray)]
theorem three {P : Int → Prop} (h0 : P 0) (h1 : P 1) (h2 : P 2) : ∀ t : Int, 0 ≤ t → t < 3 → P t := by
  intro t a b
  rcases (show t = 0 ∨ t = 1 ∨ t = 2 by omega) with rfl | rfl | rfl
  · exact h0
  · exact h1
  · exact h2
theorem cname_ok : ∀ t : Int, 0 ≤ t → t < 3 → shortL (rdOf ByteArray.empty cnames t).data.toList 16 = true ∧ (rdOf ByteArray.empty cnames t).size ≤ 3 :=
  three (by decide) (by decide) (by decide)
theorem fname_ok : ∀ t : Int, 0 ≤ t → t < 3 → shortL (rdOf ByteArray.empty fnames t).data.toList 16 = true ∧ (rdOf ByteArray.empty fnames t).size ≤ 5 :=
  three (by decide) (by decide) (by decide)
/-- Any numbers make a configuration that may be. -/
theorem config_ok (nm : ByteArray) (img conc mn mx gr name : Int) : ∃ n i c m x g, damperlaw2_Config.f nm img conc mn mx gr name = some (n, i, c, m, x, g) ∧
    (shortL n.data.toList 16 = true ∧ n.size ≤ 3) ∧ 0 ≤ i ∧ i ≤ 255 ∧ 1 ≤ c ∧ c ≤ 8 ∧ 1 ≤ x ∧ x ≤ 10 ∧ 0 ≤ m ∧ m ≤ x ∧ 0 ≤ g ∧ g ≤ 30 := by
  have w1 := wi_in name 3 (by decide) (by decide)
  have w2 := wi_in img 256 (by decide) (by decide)
  have w3 := wi_in conc 8 (by decide) (by decide)
  have w4 := wi_in mx 10 (by decide) (by decide)
  have w5 := wi_in gr 31 (by decide) (by decide)
  have hn := cname_ok (wi name 3) w1.1 w1.2
  unfold damperlaw2_Config.f
  rw [Option.bind_some, if_pos w1.1]
  rw [if_pos (show wi name 3 < ((([(⟨#[119, 101, 98]⟩ : ByteArray), (⟨#[97, 112, 105]⟩ : ByteArray), (⟨#[97, 45, 98]⟩ : ByteArray)] : List ByteArray).length : Nat) : Int) from w1.2)]
  generalize wi name 3 = t1 at w1 hn ⊢
  generalize wi img 256 = t2 at w2 ⊢
  generalize wi conc 8 = t3 at w3 ⊢
  generalize wi mx 10 = t4 at w4 ⊢
  generalize wi gr 31 = t5 at w5 ⊢
  rw [w64_small (1 + t3) (by omega) (by omega), w64_small (1 + t4) (by omega) (by omega), w64_small (1 + t4 + 1) (by omega) (by omega), if_neg (by omega)]
  have w6 := wi_in mn (1 + t4 + 1) (by omega) (by omega)
  generalize wi mn (1 + t4 + 1) = t6 at w6 ⊢
  exact ⟨_, _, _, _, _, _, rfl, hn, by omega, by omega, by omega, by omega, by omega, by omega, by omega, by omega, by omega, by omega⟩
theorem cfgE_ok {n : ByteArray} {i c m x g : Int} (h : (shortL n.data.toList 16 = true ∧ n.size ≤ 3) ∧ 0 ≤ i ∧ i ≤ 255 ∧ 1 ≤ c ∧ c ≤ 8 ∧ 1 ≤ x ∧ x ≤ 10 ∧ 0 ≤ m ∧ m ≤ x ∧ 0 ≤ g ∧ g ≤ 30) : cfgE n.data.toList i c m x g = 0 := by
  unfold cfgE
  rw [if_pos h.1.1, if_pos (cfgOk_yes h.2)]
theorem name_a : shortL (⟨#[97]⟩ : ByteArray).data.toList 16 = true := by decide
theorem name_b : shortL (⟨#[98]⟩ : ByteArray).data.toList 16 = true := by decide
theorem known_ok (k : Nat) : damperlaw2_known.f (k + 10) = some true := by unfold damperlaw2_known.f; rw [route_eq _ (by omega) _ _ _ _ (fun t h => by cases h), Option.bind_some, if_pos (by decide), cfg_eq, Option.bind_some, if_pos (by decide), cfg_eq, Option.bind_some]; decide
end Go.Proofs.YthdpnbfjpbiieaaDoor.Plain
