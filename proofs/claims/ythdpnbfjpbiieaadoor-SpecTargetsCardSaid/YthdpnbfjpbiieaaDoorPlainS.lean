/- Plain laws of configurations and routes: what the printed functions of both sides compute, in closed form. -/
import Derived.Test.YthdpnbfjpbiieaaDoorMax0
import Derived.Test.YthdpnbfjpbiieaaDoorMax3
import Derived.Test.YthdpnbfjpbiieaaDoorMax4
import Derived.Test.YthdpnbfjpbiieaaDoorMax11
import Derived.Test.YthdpnbfjpbiieaaDoorMax12
import Derived.Test.YthdpnbfjpbiieaaDoorMax13
import Derived.Test.YthdpnbfjpbiieaaDoorMax16
import Derived.Test.YthdpnbfjpbiieaaDoorMax22
import Derived.Test.YthdpnbfjpbiieaaDoorMax23
import Derived.Test.YthdpnbfjpbiieaaDoorPlain
import Derived.Test.YthdpnbfjpbiieaaDoorPlainM
import Derived.Test.YthdpnbfjpbiieaaDoorPlainR
namespace Go.Proofs.YthdpnbfjpbiieaaDoor.Plain
open Go.RowKit Go.Proofs.YthdpnbfjpbiieaaDoor.Ma Go.Proofs.YthdpnbfjpbiieaaDoorW.PrintWords Go.Proofs.YthdpnbfjpbiieaaDoorW.PrintLast

theorem has_eq (a b n : Int) : spec_span_has.f a b n = some (decide (a ≤ n) && decide (n ≤ b)) := by
  unfold spec_span_has.f
  by_cases h : n ≥ a
  · rw [if_pos h, decide_eq_true (show a ≤ n from h), Bool.true_and]
  · rw [if_neg h, decide_eq_false (show ¬ a ≤ n from h), Bool.false_and]
def cfgOk (img conc mn mx gr : Int) : Bool := (decide (0 ≤ img) && decide (img ≤ 255)) && ((decide (1 ≤ conc) && decide (conc ≤ 8)) && ((decide (1 ≤ mx) && decide (mx ≤ 10)) && ((decide (0 ≤ mn) && decide (mn ≤ mx)) && (decide (0 ≤ gr) && decide (gr ≤ 30)))))
/-- What is wrong with a configuration. -/
def cfgE (l : List UInt8) (img conc mn mx gr : Int) : Int := if shortL l 16 = true then (if cfgOk img conc mn mx gr = true then 0 else 2) else 1
theorem cfg_eq (k : Nat) (nm : ByteArray) (img conc mn mx gr : Int) : spec_Config.f (k + 1) nm img conc mn mx gr = some (cfgE nm.data.toList img conc mn mx gr) := by
  unfold spec_Config.f cfgE cfgOk
  simp only [name_eq, has_eq, Option.bind_some]
  generalize (decide (0 ≤ img) && decide (img ≤ 255)) = b1
  generalize (decide (1 ≤ conc) && decide (conc ≤ 8)) = b2
  generalize (decide (1 ≤ mx) && decide (mx ≤ 10)) = b3
  generalize (decide (0 ≤ mn) && decide (mn ≤ mx)) = b4
  generalize (decide (0 ≤ gr) && decide (gr ≤ 30)) = b5
  have j : ∀ b, spec_Config.j0 (k + 1) b = some (if b = true then 2 else 0) := by intro b; cases b <;> rfl
  simp only [j]
  cases shortL nm.data.toList 16 <;> cases b1 <;> cases b2 <;> cases b3 <;> cases b4 <;> cases b5 <;> rfl
theorem cfgOk_no {img conc mn mx gr : Int} (h : ¬ (0 ≤ img ∧ img ≤ 255 ∧ 1 ≤ conc ∧ conc ≤ 8 ∧ 1 ≤ mx ∧ mx ≤ 10 ∧ 0 ≤ mn ∧ mn ≤ mx ∧ 0 ≤ gr ∧ gr ≤ 30)) : cfgOk img conc mn mx gr = false := by
  rw [Bool.eq_false_iff]
  intro h2
  simp only [cfgOk, Bool.and_eq_true, decide_eq_true_eq] at h2
  exact h (by omega)
theorem cfgOk_yes {img conc mn mx gr : Int} (h : 0 ≤ img ∧ img ≤ 255 ∧ 1 ≤ conc ∧ conc ≤ 8 ∧ 1 ≤ mx ∧ mx ≤ 10 ∧ 0 ≤ mn ∧ mn ≤ mx ∧ 0 ≤ gr ∧ gr ≤ 30) : cfgOk img conc mn mx gr = true := by
  simp only [cfgOk, Bool.and_eq_true, decide_eq_true_eq]
  omega
theorem rcfg_eq (k : Nat) (nm : ByteArray) (hs : nm.size < 4611686018427387904) (hk : nm.data.toList.length + 4 ≤ k) (img conc mn mx gr : Int) : damperref2_Config.f k nm img conc mn mx gr = some (cfgE nm.data.toList img conc mn mx gr) := by
  unfold damperref2_Config.f
  rw [rname_eq nm hs k hk, Option.bind_some]
  obtain ⟨k, rfl⟩ : ∃ j, k = j + 1 := ⟨k - 1, by omega⟩
  have j : ∀ b, damperref2_Config.j0 (k + 1) b = some (if b = true then 2 else 0) := by intro b; cases b <;> rfl
  simp only [j]
  unfold cfgE
  by_cases hn : shortL nm.data.toList 16 = true
  · rw [if_pos hn, if_pos hn]
    by_cases h : 0 ≤ img ∧ img ≤ 255 ∧ 1 ≤ conc ∧ conc ≤ 8 ∧ 1 ≤ mx ∧ mx ≤ 10 ∧ 0 ≤ mn ∧ mn ≤ mx ∧ 0 ≤ gr ∧ gr ≤ 30
    · rw [cfgOk_yes h, if_neg (by omega), if_neg (by omega), if_neg (by omega), if_neg (by omega), if_neg (by omega), if_neg (by omega), if_neg (by omega), if_neg (by omega), if_neg (by omega), decide_eq_false (by omega)]
      rfl
    · rw [cfgOk_no h]
      repeat' first | rfl | (rename_i c; rw [decide_eq_true (show gr > 30 by omega)]; rfl) | split
  · rw [if_neg hn, if_neg hn]

/-- What is wrong with one target. -/
def tgE (t : S41) : Int := tgt t.f0 t.f1 t.f2 (splitV t.f0).2.2 (shortL t.f1.data.toList 8)
theorem target_eq (t : S41) (h : t.f0.size ≤ 140737488351232) : spec_target.f t.f0 t.f1 t.f2 = some (tgE t) := by
  unfold spec_target.f
  rw [split_eq _ h, Option.bind_some, tag_eq, Option.bind_some]
  rfl
/-- The first that is wrong. -/
def firstE : List S41 → Int
  | [] => 0
  | t :: ts => if tgE t = 0 then firstE ts else tgE t
/-- What is wrong with a route. -/
def routeE (n c : ByteArray) (l : List S41) (roll : Int) : Int :=
  if (shortL n.data.toList 16 && shortL c.data.toList 16) = true then (if 0 ≤ roll ∧ roll ≤ 60 then (if 1 ≤ l.length ∧ l.length ≤ 6 then (if firstE l = 0 then all_go [] l 0 else firstE l) else 3) else 2) else 1
theorem rd_at (l : List S41) (i : Nat) (h : i < l.length) : rd_T41 l (i : Int) = l[i] := by
  show l.getD i z41 = l[i]
  rw [List.getD_eq_getElem?_getD, List.getElem?_eq_getElem h]; rfl
theorem route_l0 (l : List S41) (n c : ByteArray) (roll : Int) (hl : l.length ≤ 6) (hs : ∀ t ∈ l, t.f0.size ≤ 140737488351232) : ∀ (m i k : Nat), l.length - i = m → i ≤ l.length → m + 1 ≤ k →
    spec_Route.l0 k l (l.length : Int) (i : Int) n c l roll = some (if firstE (l.drop i) = 0 then all_go [] l 0 else firstE (l.drop i))
  | m, i, k, hm, hi, hk => by
    obtain ⟨k, rfl⟩ : ∃ j, k = j + 1 := ⟨k - 1, by omega⟩
    rw [spec_Route.l0]
    by_cases h : i < l.length
    · rw [if_pos (by omega), if_pos (by omega), if_pos (by omega), rd_at l i h, target_eq _ (hs _ (List.getElem_mem h)), Option.bind_some, w64_small _ (by omega) (by omega), List.drop_eq_getElem_cons h, firstE]
      by_cases h0 : tgE l[i] = 0
      · rw [if_pos h0, if_pos h0]
        exact route_l0 l n c roll hl hs (m - 1) (i + 1) k (by omega) (by omega) (by omega)
      · rw [if_neg h0, if_neg h0, if_neg h0]
    · rw [if_neg (by omega), List.drop_of_length_le (by omega)]
      rfl
theorem route_eq (k : Nat) (hk : 10 ≤ k) (n c : ByteArray) (l : List S41) (roll : Int) (hs : ∀ t ∈ l, t.f0.size ≤ 140737488351232) : spec_Route.f k n c l roll = some (routeE n c l roll) := by
  obtain ⟨k, rfl⟩ : ∃ j, k = j + 1 := ⟨k - 1, by omega⟩
  have j : ∀ b, spec_Route.j0 (k + 1) b n c l roll = some (if b = true then 1 else (if 0 ≤ roll ∧ roll ≤ 60 then (if 1 ≤ l.length ∧ l.length ≤ 6 then (if firstE l = 0 then all_go [] l 0 else firstE l) else 3) else 2)) := by
    intro b
    cases b
    · rw [spec_Route.j0, if_neg (by decide), if_neg (by decide), has_eq, Option.bind_some]
      by_cases h1 : 0 ≤ roll ∧ roll ≤ 60
      · rw [if_pos h1, decide_eq_true h1.1, decide_eq_true h1.2, if_pos (by rfl), has_eq, Option.bind_some]
        by_cases h2 : 1 ≤ l.length ∧ l.length ≤ 6
        · rw [if_pos h2, decide_eq_true (by omega), decide_eq_true (by omega), if_pos (by rfl)]
          have := route_l0 l n c roll h2.2 hs l.length 0 k (by omega) (by omega) (by omega)
          rwa [List.drop_zero] at this
        · rw [if_neg h2, if_neg]
          simp only [Bool.and_eq_true, decide_eq_true_eq]; omega
      · rw [if_neg h1, if_neg]
        simp only [Bool.and_eq_true, decide_eq_true_eq]; exact h1
    · rw [spec_Route.j0, if_pos rfl]; rfl
  unfold spec_Route.f routeE
  simp only [name_eq, Option.bind_some, j]
  cases shortL n.data.toList 16 <;> cases shortL c.data.toList 16 <;> rfl

theorem rrevision_eq (s : ByteArray) (hs : s.size < 281474976710656) (k : Nat) (hk : s.data.toList.length + 30 ≤ k) : damperref2_revision.f k s = some (splitV s).2.2 := by
  unfold damperref2_revision.f
  rw [rsplit_eq s hs k hk, Option.bind_some]
/-- The second loop of the document's, in closed form: sums and tags that stand there twice. -/
theorem rroute_l12 (l : List S41) (n c : ByteArray) (roll : Int) (hl : l.length ≤ 6) : ∀ (m i : Nat), l.length - i = m → i ≤ l.length →
    (∀ (k : Nat) (s : Int), 8 * m + 1 ≤ k → damperref2_Route.l1 k s (i : Int) n c l roll = some (all_go (l.take i) (l.drop i) s)) ∧
    (∀ (h : i < l.length) (q j k : Nat) (s : Int), i - j = q → j ≤ i → 8 * (m - 1) + q + 2 ≤ k → damperref2_Route.l2 k s (i : Int) (j : Int) n c l roll = some (if l[i].f1.toList ≠ [] ∧ ((l.take i).drop j).any (fun y => y.f1.toList == l[i].f1.toList) = true then 5 else all_go (l.take (i + 1)) (l.drop (i + 1)) s))
  | m, i, hm, hi => by
    have B : ∀ (h : i < l.length) (q j k : Nat) (s : Int), i - j = q → j ≤ i → 8 * (m - 1) + q + 2 ≤ k → damperref2_Route.l2 k s (i : Int) (j : Int) n c l roll = some (if l[i].f1.toList ≠ [] ∧ ((l.take i).drop j).any (fun y => y.f1.toList == l[i].f1.toList) = true then 5 else all_go (l.take (i + 1)) (l.drop (i + 1)) s) := by
      intro h q
      induction q with
      | zero =>
        intro j k s hq hj hk
        obtain ⟨k, rfl⟩ : ∃ j, k = j + 1 := ⟨k - 1, by omega⟩
        rw [damperref2_Route.l2, if_neg (by omega), w64_small _ (by omega) (by omega), List.drop_of_length_le (by rw [List.length_take]; omega)]
        rw [show ((i : Int) + 1) = ((i + 1 : Nat) : Int) by omega, (rroute_l12 l n c roll hl (m - 1) (i + 1) (by omega) (by omega)).1 k s (by omega)]
        simp
      | succ q ih =>
        intro j k s hq hj hk
        obtain ⟨k, rfl⟩ : ∃ j, k = j + 1 := ⟨k - 1, by omega⟩
        have hji : j < i := by omega
        have hjl : j < (l.take i).length := by rw [List.length_take]; omega
        rw [damperref2_Route.l2, if_pos (by omega), if_pos (by omega), if_pos (by omega), rd_at l i h, w64_small _ (by omega) (by omega), show ((j : Int) + 1) = ((j + 1 : Nat) : Int) by omega]
        have hn := ih (j + 1) k s (by omega) (by omega) (by omega)
        rw [List.drop_eq_getElem_cons hjl, List.any_cons, List.getElem_take]
        by_cases ht : l[i].f1.toList = []
        · rw [if_pos ht, hn, if_neg (fun hh => hh.1 ht), if_neg (fun hh => hh.1 ht)]
        · rw [if_neg ht, if_pos (by omega), if_pos (by omega), rd_at l j (by omega)]
          by_cases he : l[i].f1.toList = l[j].f1.toList
          · rw [if_pos he, if_pos ⟨ht, by rw [he]; simp⟩]
          · rw [if_neg he, hn, beq_eq_false_iff_ne.2 (fun e => he e.symm), Bool.false_or]
    refine ⟨?_, B⟩
    intro k s hk
    obtain ⟨k, rfl⟩ : ∃ j, k = j + 1 := ⟨k - 1, by omega⟩
    rw [damperref2_Route.l1]
    by_cases h : i < l.length
    · rw [if_pos (by omega), if_pos (by omega), rd_at l i h, show (0 : Int) = ((0 : Nat) : Int) from rfl, B h i 0 k _ (by omega) (by omega) (by omega), List.drop_zero, List.drop_eq_getElem_cons h, all_go, ← List.take_succ_eq_append_getElem h]
    · rw [if_neg (by omega), List.drop_of_length_le (by omega), all_go]
      split <;> rfl
  termination_by m => m
theorem rroute_l0 (l : List S41) (n c : ByteArray) (roll : Int) (hl : l.length ≤ 6) (B : Nat) (hs : ∀ t ∈ l, t.f0.size < 281474976710656 ∧ t.f1.size < 4611686018427387904 ∧ t.f0.data.toList.length + 30 ≤ B ∧ t.f1.data.toList.length + 30 ≤ B) : ∀ (m i k : Nat), l.length - i = m → i ≤ l.length → B + 60 + 2 * m ≤ k →
    damperref2_Route.l0 k (i : Int) n c l roll = some (if firstE (l.drop i) = 0 then all_go [] l 0 else firstE (l.drop i))
  | m, i, k, hm, hi, hk => by
    obtain ⟨k, rfl⟩ : ∃ j, k = j + 2 := ⟨k - 2, by omega⟩
    rw [damperref2_Route.l0]
    by_cases h : i < l.length
    · have j : ∀ b t0 t1 t2, damperref2_Route.j3 (k + 1) (i : Int) b n c l roll t0 t1 t2 = if b = true then some 1 else if 0 ≤ t2 ∧ t2 ≤ 100 then damperref2_Route.l0 k ((i + 1 : Nat) : Int) n c l roll else some 2 := by
        intro b t0 t1 t2
        rw [damperref2_Route.j3, w64_small _ (by omega) (by omega)]
        cases b
        · simp only [Bool.false_eq_true, if_false]
          by_cases h1 : t2 < 0
          · rw [if_pos h1, if_neg (by omega)]
          · rw [if_neg h1]
            by_cases h2 : t2 > 100
            · rw [if_pos h2, if_neg (by omega)]
            · rw [if_neg h2, if_pos (by omega)]; rfl
        · rw [if_pos rfl, if_pos rfl]
      obtain ⟨b0, b1, b2, b3⟩ := hs _ (List.getElem_mem h)
      rw [if_pos (by omega), if_pos (by omega), rd_at l i h, List.drop_eq_getElem_cons h, firstE]
      simp only [j, rrevision_eq _ b0 (k + 1) (by omega), rtag_eq _ b1 (k + 1) (by omega), Option.bind_some]
      rw [rroute_l0 l n c roll hl B hs (m - 1) (i + 1) k (by omega) (by omega) (by omega)]
      unfold tgE tgt
      generalize (splitV l[i].f0).2.2 = sp
      generalize shortL l[i].f1.data.toList 8 = tg
      by_cases e0 : l[i].f0.toList = [] <;> by_cases e1 : l[i].f1.toList = [] <;> by_cases e2 : 0 ≤ l[i].f2 ∧ l[i].f2 ≤ 100 <;> cases sp <;> cases tg <;> simp [e0, e1, e2]
    · rw [if_neg (by omega), List.drop_of_length_le (by omega)]
      have := (rroute_l12 l n c roll hl l.length 0 (by omega) (by omega)).1 (k + 1) 0 (by omega)
      rw [List.take_zero, List.drop_zero] at this
      exact this
theorem rroute_eq (k B : Nat) (hk : B + 80 ≤ k) (n c : ByteArray) (l : List S41) (roll : Int) (hn : n.size < 4611686018427387904 ∧ n.data.toList.length + 30 ≤ B) (hc : c.size < 4611686018427387904 ∧ c.data.toList.length + 30 ≤ B)
    (hs : ∀ t ∈ l, t.f0.size < 281474976710656 ∧ t.f1.size < 4611686018427387904 ∧ t.f0.data.toList.length + 30 ≤ B ∧ t.f1.data.toList.length + 30 ≤ B) : damperref2_Route.f k n c l roll = some (routeE n c l roll) := by
  obtain ⟨k, rfl⟩ : ∃ j, k = j + 2 := ⟨k - 2, by omega⟩
  have j1 : ∀ b, damperref2_Route.j1 (k + 1) b n c l roll = some (if b = true then 2 else (if 1 ≤ l.length ∧ l.length ≤ 6 then (if firstE l = 0 then all_go [] l 0 else firstE l) else 3)) := by
    intro b
    cases b
    · rw [damperref2_Route.j1]; simp only [Bool.false_eq_true, if_false]
      by_cases h1 : (l.length : Int) < 1
      · rw [if_pos h1, if_neg (by omega)]
      · rw [if_neg h1]
        by_cases h2 : (l.length : Int) > 6
        · rw [if_pos h2, if_neg (by omega)]
        · rw [if_neg h2, if_pos (by omega)]
          have := rroute_l0 l n c roll (by omega) B hs l.length 0 k (by omega) (by omega) (by omega)
          rwa [List.drop_zero] at this
    · rw [damperref2_Route.j1, if_pos rfl]; rfl
  have j0 : ∀ b, damperref2_Route.j0 (k + 2) b n c l roll = some (if b = true then 1 else (if 0 ≤ roll ∧ roll ≤ 60 then (if 1 ≤ l.length ∧ l.length ≤ 6 then (if firstE l = 0 then all_go [] l 0 else firstE l) else 3) else 2)) := by
    intro b
    cases b
    · rw [damperref2_Route.j0]; simp only [Bool.false_eq_true, if_false]
      by_cases h1 : roll < 0
      · rw [if_pos h1, j1, if_pos rfl, if_neg (by omega)]
      · rw [if_neg h1, j1]
        by_cases h2 : roll > 60
        · rw [decide_eq_true h2, if_pos rfl, if_neg (by omega)]
        · rw [decide_eq_false h2, if_neg (by decide), if_pos (show 0 ≤ roll ∧ roll ≤ 60 by omega)]
    · rw [damperref2_Route.j0, if_pos rfl]; rfl
  unfold damperref2_Route.f routeE
  rw [rname_eq n hn.1 _ (by omega), rname_eq c hc.1 _ (by omega)]
  simp only [Option.bind_some, j0]
  cases shortL n.data.toList 16 <;> cases shortL c.data.toList 16 <;> rfl
end Go.Proofs.YthdpnbfjpbiieaaDoor.Plain
