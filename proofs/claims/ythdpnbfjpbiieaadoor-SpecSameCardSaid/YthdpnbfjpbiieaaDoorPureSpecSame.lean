/- Two drawn routes are the same for the program just where they are for the document; one that has one thing turned is another one, from both sides. -/
import Derived.Test.YthdpnbfjpbiieaaDoorMax0
import Derived.Test.YthdpnbfjpbiieaaDoorMax28
import Derived.Test.YthdpnbfjpbiieaaDoorMax30
import Derived.Test.YthdpnbfjpbiieaaDoorPlainE
namespace Go.Proofs.YthdpnbfjpbiieaaDoor.Pure
open Go.RowKit Go.Proofs.YthdpnbfjpbiieaaDoor.Ma Go.Proofs.YthdpnbfjpbiieaaDoorW.PrintWords Go.Proofs.YthdpnbfjpbiieaaDoorW.PrintLast Go.Proofs.YthdpnbfjpbiieaaDoor.Plain
set_option linter.unusedVariables false

theorem eqL_set : ∀ (l : List S41) (i : Nat) (h : i < l.length) (t : S41), eqL l (l.set i t) = eqT l[i] t ∧ eqL (l.set i t) l = eqT t l[i]
  | x :: xs, 0, _, t => by simp [eqL, eqL_refl]
  | x :: xs, i + 1, h, t => by
    have h2 : i < xs.length := by simpa using h
    have ih := eqL_set xs i h2 t
    rw [List.set_cons_succ, eqL, eqL, eqT_refl, ih.1, ih.2, List.getElem_cons_succ]
    simp
theorem tl_app (s : ByteArray) (b : UInt8) : ((s ++ (⟨#[b]⟩ : ByteArray)).toList == s.toList) = false ∧ (s.toList == (s ++ (⟨#[b]⟩ : ByteArray)).toList) = false := by
  have e : (s ++ (⟨#[b]⟩ : ByteArray)).toList ≠ s.toList := by
    rw [Lib.toList_data, Lib.toList_data]
    intro h
    have := congrArg List.length h
    simp at this
  exact ⟨beq_eq_false_iff_ne.2 e, beq_eq_false_iff_ne.2 (Ne.symm e)⟩
theorem same_j1 (k : Nat) (n c : ByteArray) (l : List S41) (r : Int) (n2 c2 : ByteArray) (l2 : List S41) (r2 : Int) (h1 : sameE n c l r n2 c2 l2 r2 = false) (h2 : sameE n2 c2 l2 r2 n c l r = false) : damperlaw2_SpecSame.j1 (k + 1) n c l r n2 c2 l2 r2 = some true := by
  rw [damperlaw2_SpecSame.j1, same_eq, Option.bind_some, h1, if_neg (by decide), same_eq, Option.bind_some, h2]
  rfl
theorem not_q : ∀ t : Int, 0 ≤ t → t < 3 → ((rdOf ByteArray.empty cnames t).toList == (⟨#[113]⟩ : ByteArray).toList) = false ∧ ((⟨#[113]⟩ : ByteArray).toList == (rdOf ByteArray.empty cnames t).toList) = false := by
  intro t h0 h1
  rw [Lib.toList_data, Lib.toList_data]
  have : ∀ t : Int, 0 ≤ t → t < 3 → ((rdOf ByteArray.empty cnames t).data.toList == (⟨#[113]⟩ : ByteArray).data.toList) = false ∧ ((⟨#[113]⟩ : ByteArray).data.toList == (rdOf ByteArray.empty cnames t).data.toList) = false := three (by decide) (by decide) (by decide)
  exact this t h0 h1
theorem SpecSame : damperlaw2_SpecSame.Pure := by
  intro a0 l1 a2 l3 a4 a5 _ w1 _ w3 _ _
  have hm1 : l1.length ≤ 9223372036854775807 := w1.1
  have hm3 : l3.length ≤ 9223372036854775807 := w3.1
  refine ⟨60, ?_⟩
  unfold damperlaw2_SpecSame.f
  rw [show (60 : Nat) = 50 + 10 from rfl, known_ok, Option.bind_some, if_pos rfl]
  obtain ⟨nm, cf, l, roll, hc, hn, ⟨⟨t, t0, t1, hcf⟩, hc1, hc2⟩, hr, hl, hg, hp⟩ := gen_ok (50 + 10) (by omega) a0 l1 hm1 a2
  obtain ⟨nm', cf', l', roll', hc', _, _, _, hl', _, _⟩ := gen_ok (50 + 10) (by omega) a0 l3 hm3 a2
  rw [hc, Option.bind_some, hc', Option.bind_some, Option.bind_some]
  simp only
  rw [same_eq, Option.bind_some, rsame_eq _ _ _ _ _ _ _ _ _ (by omega) (by omega), Option.bind_some, if_neg (by simp), same_eq, Option.bind_some, sameE_refl, show (!true) = false from rfl, show (50 + 10 : Nat) = 59 + 1 from rfl, damperlaw2_SpecSame.j0, if_neg (by decide), if_neg (by omega)]
  have hw := wi_in a4 6 (by decide) (by decide)
  generalize wi a4 6 = v at hw ⊢
  have w := wi_in a5 (l.length : Int) (by omega) (by omega)
  generalize wi a5 (l.length : Int) = q at w ⊢
  obtain ⟨i, rfl⟩ := Int.eq_ofNat_of_zero_le w.1
  have hi : i < l.length := by omega
  have hgi := hg i hi
  have hgp := hgi.2.2
  by_cases h0 : v = 0
  · have h := tl_app nm 120
    rw [if_pos h0, if_pos (by omega)]
    exact same_j1 58 _ _ _ _ _ _ _ _ (by unfold sameE; rw [h.2]; rfl) (by unfold sameE; rw [h.1]; rfl)
  rw [if_neg h0]
  by_cases h0 : v = 1
  · have h := not_q t t0 t1
    rw [← hcf] at h
    rw [if_pos h0]
    exact same_j1 58 _ _ _ _ _ _ _ _ (by unfold sameE; rw [h.1]; simp) (by unfold sameE; rw [h.2]; simp)
  rw [if_neg h0]
  by_cases h0 : v = 2
  · rw [if_pos h0, w64_small _ (by omega) (by omega)]
    have e1 : (roll == roll + 1) = false := beq_eq_false_iff_ne.2 (by omega)
    have e2 : (roll + 1 == roll) = false := beq_eq_false_iff_ne.2 (by omega)
    exact same_j1 58 _ _ _ _ _ _ _ _ (by unfold sameE; rw [e1]; simp) (by unfold sameE; rw [e2]; simp)
  rw [if_neg h0]
  by_cases h0 : v = 3
  · rw [if_pos h0, if_pos w.1, if_pos w.2, rd_at l i hi, w64_small _ (by omega) (by omega)]
    have h := eqL_set l i hi ⟨l[i].f0, l[i].f1, l[i].f2 + 1⟩
    have e1 : (l[i].f2 == l[i].f2 + 1) = false := beq_eq_false_iff_ne.2 (by omega)
    have e2 : (l[i].f2 + 1 == l[i].f2) = false := beq_eq_false_iff_ne.2 (by omega)
    have h1 : eqL l (l.set i ⟨l[i].f0, l[i].f1, l[i].f2 + 1⟩) = false := by rw [h.1]; unfold eqT; simp only [e1]; simp
    have h2 : eqL (l.set i ⟨l[i].f0, l[i].f1, l[i].f2 + 1⟩) l = false := by rw [h.2]; unfold eqT; simp only [e2]; simp
    exact same_j1 58 _ _ _ _ _ _ _ _ (by unfold sameE; show (_ && eqL l (l.set i ⟨l[i].f0, l[i].f1, l[i].f2 + 1⟩)) = false; rw [h1, Bool.and_false]) (by unfold sameE; show (_ && eqL (l.set i ⟨l[i].f0, l[i].f1, l[i].f2 + 1⟩) l) = false; rw [h2, Bool.and_false])
  rw [if_neg h0]
  by_cases h0 : v = 4
  · have hz := (good_size hc2 hgi).1
    rw [if_pos h0, if_pos w.1, if_pos w.2, rd_at l i hi, if_pos (by omega)]
    have h := eqL_set l i hi ⟨l[i].f0 ++ (⟨#[57]⟩ : ByteArray), l[i].f1, l[i].f2⟩
    have e := tl_app l[i].f0 57
    have h1 : eqL l (l.set i ⟨l[i].f0 ++ (⟨#[57]⟩ : ByteArray), l[i].f1, l[i].f2⟩) = false := by rw [h.1]; unfold eqT; simp only [e.2]; simp
    have h2 : eqL (l.set i ⟨l[i].f0 ++ (⟨#[57]⟩ : ByteArray), l[i].f1, l[i].f2⟩) l = false := by rw [h.2]; unfold eqT; simp only [e.1]; simp
    exact same_j1 58 _ _ _ _ _ _ _ _ (by unfold sameE; show (_ && eqL l (l.set i ⟨l[i].f0 ++ (⟨#[57]⟩ : ByteArray), l[i].f1, l[i].f2⟩)) = false; rw [h1, Bool.and_false]) (by unfold sameE; show (_ && eqL (l.set i ⟨l[i].f0 ++ (⟨#[57]⟩ : ByteArray), l[i].f1, l[i].f2⟩) l) = false; rw [h2, Bool.and_false])
  rw [if_neg h0]
  by_cases h0 : v = 5
  · rw [if_pos h0, if_pos (by omega)]
    have h1 : eqL l (l ++ [⟨⟨#[]⟩, ⟨#[]⟩, 0⟩]) = false := eqL_len _ _ (by simp)
    have h2 : eqL (l ++ [⟨⟨#[]⟩, ⟨#[]⟩, 0⟩]) l = false := eqL_len _ _ (by simp)
    exact same_j1 58 _ _ _ _ _ _ _ _ (by unfold sameE; rw [h1, Bool.and_false]) (by unfold sameE; rw [h2, Bool.and_false])
  omega
end Go.Proofs.YthdpnbfjpbiieaaDoor.Pure
