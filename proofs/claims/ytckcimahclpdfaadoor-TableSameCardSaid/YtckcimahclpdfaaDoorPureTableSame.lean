/- Two tables are the same just where their texts are; one thing another one, and they are not. -/
import Derived.Test.YtckcimahclpdfaaDoorMax0
import Derived.Test.YtckcimahclpdfaaDoorMax17
import Derived.Test.YtckcimahclpdfaaDoorPlainV
namespace Go.Proofs.YtckcimahclpdfaaDoor.Pure
open Go.RowKit Go.Proofs.YtckcimahclpdfaaDoor.Ma Go.Proofs.YtckcimahclpdfaaDoorW.PrintWords Go.Proofs.YtckcimahclpdfaaDoorW.PrintLast Go.Proofs.YtckcimahclpdfaaDoor.Plain
set_option linter.unusedVariables false
set_option linter.unusedSimpArgs false

theorem cut2 (c : UInt8) : ∀ (a b u v : List UInt8), (∀ x ∈ a, x ≠ c) → (∀ x ∈ b, x ≠ c) → (u = [] ∨ ∃ w, u = c :: w) → (v = [] ∨ ∃ w, v = c :: w) → a ++ u = b ++ v → a = b ∧ u = v
  | [], [], u, v, _, _, _, _, h => ⟨rfl, h⟩
  | x :: a, [], u, v, ha, _, _, hv, h => by
    rcases hv with rfl | ⟨w, rfl⟩
    · simp at h
    · simp only [List.cons_append, List.nil_append, List.cons.injEq] at h
      exact absurd h.1 (ha x (by simp))
  | [], y :: b, u, v, _, hb, hu, _, h => by
    rcases hu with rfl | ⟨w, rfl⟩
    · simp at h
    · simp only [List.cons_append, List.nil_append, List.cons.injEq] at h
      exact absurd h.1.symm (hb y (by simp))
  | x :: a, y :: b, u, v, ha, hb, hu, hv, h => by
    simp only [List.cons_append, List.cons.injEq] at h
    have := cut2 c a b u v (fun z hz => ha z (by simp [hz])) (fun z hz => hb z (by simp [hz])) hu hv h.2
    exact ⟨by rw [h.1, this.1], this.2⟩
theorem tail_form (xs : List (List UInt8)) : Lib.joinTail [32] xs = [] ∨ ∃ w, Lib.joinTail [32] xs = 32 :: w := by
  cases xs with
  | nil => exact .inl rfl
  | cons x xs => exact .inr ⟨x ++ Lib.joinTail [32] xs, by simp [Lib.joinTail]⟩
theorem tail_cons (x : List UInt8) (xs : List (List UInt8)) : Lib.joinTail [32] (x :: xs) = 32 :: (x ++ Lib.joinTail [32] xs) := by simp [Lib.joinTail]
theorem tail_inj : ∀ (xs ys : List (List UInt8)), (∀ x ∈ xs, ∀ b ∈ x, b ≠ 32) → (∀ x ∈ ys, ∀ b ∈ x, b ≠ 32) → Lib.joinTail [32] xs = Lib.joinTail [32] ys → xs = ys
  | [], [], _, _, _ => rfl
  | x :: xs, [], _, _, h => by rw [tail_cons] at h; exact absurd h (by simp [Lib.joinTail])
  | [], y :: ys, _, _, h => by rw [tail_cons] at h; exact absurd h (by simp [Lib.joinTail])
  | x :: xs, y :: ys, hx, hy, h => by
    rw [tail_cons, tail_cons, List.cons.injEq] at h
    have := cut2 32 x y _ _ (hx x (by simp)) (hy y (by simp)) (tail_form xs) (tail_form ys) h.2
    rw [this.1, tail_inj xs ys (fun z hz => hx z (by simp [hz])) (fun z hz => hy z (by simp [hz])) this.2]
theorem map_data : ∀ (p q : List ByteArray), p.map (·.data.toList) = q.map (·.data.toList) → p = q
  | [], [], _ => rfl
  | [], _ :: _, h => by simp at h
  | _ :: _, [], h => by simp at h
  | x :: p, y :: q, h => by
    rw [List.map_cons, List.map_cons, List.cons.injEq] at h
    rw [ba_ext h.1, map_data p q h.2]
theorem joinB_inj {p q : List ByteArray} (hp : p ≠ []) (hq : q ≠ []) (h1 : ∀ x ∈ p, ∀ b ∈ x.data.toList, b ≠ 32) (h2 : ∀ x ∈ q, ∀ b ∈ x.data.toList, b ≠ 32) (h : joinB p = joinB q) : p = q := by
  have h := congrArg (fun b : ByteArray => b.data.toList) h
  simp only [joinB, List.toList_toArray] at h
  cases p with
  | nil => exact absurd rfl hp
  | cons x p =>
    cases q with
    | nil => exact absurd rfl hq
    | cons y q =>
      rw [List.map_cons, List.map_cons, Lib.join_cons, Lib.join_cons] at h
      have c := cut2 32 _ _ _ _ (h1 x (by simp)) (h2 y (by simp)) (tail_form _) (tail_form _) h
      have d := tail_inj _ _ (by
        intro z hz
        obtain ⟨w, hw, rfl⟩ := List.mem_map.1 hz
        exact h1 w (by simp [hw])) (by
        intro z hz
        obtain ⟨w, hw, rfl⟩ := List.mem_map.1 hz
        exact h2 w (by simp [hw])) c.2
      rw [ba_ext c.1, map_data p q d]
theorem pc_data (c : UInt8) (p : S62) : (pc c p).data.toList = p.f0.data.toList ++ c :: p.f1.data.toList := by simp [pc]
theorem pc_inj (c : UInt8) {x y : S62} (hx : ∀ b ∈ x.f0.data.toList, b ≠ c) (hy : ∀ b ∈ y.f0.data.toList, b ≠ c) (h : pc c x = pc c y) : x = y := by
  have h := congrArg (fun b : ByteArray => b.data.toList) h
  simp only [pc_data] at h
  have e := cut2 c _ _ _ _ hx hy (.inr ⟨_, rfl⟩) (.inr ⟨_, rfl⟩) h
  obtain ⟨x0, x1⟩ := x
  obtain ⟨y0, y1⟩ := y
  have e2 := (List.cons.inj e.2).2
  have h0 : x0 = y0 := ba_ext e.1
  have h1 : x1 = y1 := ba_ext e2
  rw [h0, h1]
theorem map_pc (c : UInt8) : ∀ {p q : List S62}, (∀ x ∈ p, ∀ b ∈ x.f0.data.toList, b ≠ c) → (∀ x ∈ q, ∀ b ∈ x.f0.data.toList, b ≠ c) → p.map (pc c) = q.map (pc c) → p = q
  | [], [], _, _, _ => rfl
  | [], _ :: _, _, _, h => by simp at h
  | _ :: _, [], _, _, h => by simp at h
  | x :: p, y :: q, hx, hy, h => by
    rw [List.map_cons, List.map_cons, List.cons.injEq] at h
    rw [pc_inj c (hx x (by simp)) (hy y (by simp)) h.1, map_pc c (fun z hz => hx z (by simp [hz])) (fun z hz => hy z (by simp [hz])) h.2]
/-- A pair with a colon is none with a sign of equality. -/
theorem apart (x y : S62) (hy : ∀ b ∈ (pc 61 y).data.toList, b ≠ 58) (h : pc 58 x = pc 61 y) : False := by
  rw [← h, pc_data] at hy
  exact hy 58 (by simp) rfl
theorem split_pieces : ∀ (a a' b b' : List S62), (∀ x ∈ a, ∀ c ∈ x.f0.data.toList, c ≠ 58) → (∀ x ∈ a', ∀ c ∈ x.f0.data.toList, c ≠ 58) → (∀ x ∈ b, (∀ c ∈ x.f0.data.toList, c ≠ 61) ∧ ∀ c ∈ (pc 61 x).data.toList, c ≠ 58) → (∀ x ∈ b', (∀ c ∈ x.f0.data.toList, c ≠ 61) ∧ ∀ c ∈ (pc 61 x).data.toList, c ≠ 58) →
    a.map (pc 58) ++ b.map (pc 61) = a'.map (pc 58) ++ b'.map (pc 61) → a = a' ∧ b = b'
  | [], [], b, b', _, _, hb, hb', h => ⟨rfl, map_pc 61 (fun x hx => (hb x hx).1) (fun x hx => (hb' x hx).1) h⟩
  | x :: a, [], b, b', _, _, _, hb', h => by
    cases b' with
    | nil => simp at h
    | cons y b' =>
      simp only [List.map_cons, List.cons_append, List.map_nil, List.nil_append, List.cons.injEq] at h
      exact (apart x y (hb' y (by simp)).2 h.1).elim
  | [], x :: a', b, b', _, _, hb, _, h => by
    cases b with
    | nil => simp at h
    | cons y b =>
      simp only [List.map_cons, List.cons_append, List.map_nil, List.nil_append, List.cons.injEq] at h
      exact (apart x y (hb y (by simp)).2 h.1.symm).elim
  | x :: a, y :: a', b, b', ha, ha', hb, hb', h => by
    simp only [List.map_cons, List.cons_append, List.cons.injEq] at h
    have := split_pieces a a' b b' (fun z hz => ha z (by simp [hz])) (fun z hz => ha' z (by simp [hz])) hb hb' h.2
    rw [pc_inj 58 (ha x (by simp)) (ha' y (by simp)) h.1, this.1]
    exact ⟨rfl, this.2⟩
theorem clean_r : ∀ s ∈ rnames, ∀ b ∈ s.data.toList, b ≠ 32 ∧ b ≠ 58 ∧ b ≠ 61 := by
  have : rnames.all (fun s => s.data.toList.all fun b => b != 32 && (b != 58 && b != 61)) = true := by decide
  intro s hs b hb
  have := List.all_eq_true.1 (List.all_eq_true.1 this s hs) b hb
  simpa using this
theorem clean_t : ∀ s ∈ tnames, ∀ b ∈ s.data.toList, b ≠ 32 ∧ b ≠ 58 ∧ b ≠ 61 := by
  have : tnames.all (fun s => s.data.toList.all fun b => b != 32 && (b != 58 && b != 61)) = true := by decide
  intro s hs b hb
  have := List.all_eq_true.1 (List.all_eq_true.1 this s hs) b hb
  simpa using this
theorem clean_n {n : Int} (h0 : 0 ≤ n) (h1 : n ≤ 999) : ∀ b ∈ Lib.itoa n, b ≠ 32 ∧ b ≠ 58 := by
  intro b hb
  rw [itoa_dig n h0 (by omega)] at hb
  have := List.all_eq_true.1 (dig6 (g := n.toNat) (by omega)).1 b hb
  simp only [isDig, Bool.and_eq_true, decide_eq_true_eq] at this
  constructor
  · rintro rfl; exact absurd this.1 (by decide)
  · rintro rfl; exact absurd this.2 (by decide)
theorem shares_clean {l : List S32} {t : List S35} (h : GoodS l) (hS : Small l t) : (∀ x ∈ l.map shP, ∀ c ∈ x.f0.data.toList, c ≠ 58) ∧ ∀ x ∈ (l.map shP).map (pc 58), ∀ b ∈ x.data.toList, b ≠ 32 := by
  constructor
  · intro x hx
    obtain ⟨y, hy, rfl⟩ := List.mem_map.1 hx
    exact fun c hc => (clean_r _ (h.mem hy) c hc).2.1
  · intro x hx
    obtain ⟨z, hz, rfl⟩ := List.mem_map.1 hx
    obtain ⟨y, hy, rfl⟩ := List.mem_map.1 hz
    intro b hb
    have w := hS.2.2.1 y hy
    rw [pc_data] at hb
    rcases List.mem_append.1 hb with hb | hb
    · exact (clean_r _ (h.mem hy) b hb).1
    · rcases List.mem_cons.1 hb with rfl | hb
      · decide
      · exact (clean_n w.2.1 w.2.2 b (by simpa [shP] using hb)).1
theorem tags_clean {t : List S35} (h : GoodT t) : (∀ x ∈ t.map tgP, (∀ c ∈ x.f0.data.toList, c ≠ 61) ∧ ∀ c ∈ (pc 61 x).data.toList, c ≠ 58) ∧ ∀ x ∈ (t.map tgP).map (pc 61), ∀ b ∈ x.data.toList, b ≠ 32 := by
  have key : ∀ y ∈ t, ∀ b ∈ (pc 61 (tgP y)).data.toList, b ≠ 32 ∧ b ≠ 58 := by
    intro y hy b hb
    rw [pc_data] at hb
    rcases List.mem_append.1 hb with hb | hb
    · have := clean_t _ (h.mem hy) b hb; exact ⟨this.1, this.2.1⟩
    · rcases List.mem_cons.1 hb with rfl | hb
      · decide
      · have := clean_r _ (h.2 y hy) b hb; exact ⟨this.1, this.2.1⟩
  constructor
  · intro x hx
    obtain ⟨y, hy, rfl⟩ := List.mem_map.1 hx
    exact ⟨fun c hc => (clean_t _ (h.mem hy) c hc).2.2, fun c hc => (key y hy c hc).2⟩
  · intro x hx
    obtain ⟨z, hz, rfl⟩ := List.mem_map.1 hx
    obtain ⟨y, hy, rfl⟩ := List.mem_map.1 hz
    exact fun b hb => (key y hy b hb).1
theorem good_ne {l : List S32} (h : GoodS l) : l ≠ [] := by
  rintro rfl
  have := h.2.2
  simp [sumS] at this
theorem same_text {l : List S32} {t : List S35} {l2 : List S32} {t2 : List S35} (h : GoodS l) (ht : GoodT t) (h2 : GoodS l2) (ht2 : GoodT t2) : sameB l t l2 t2 = ((joinB (pieces l t)).toList == (joinB (pieces l2 t2)).toList) := by
  have hS := small_of h ht
  have hS2 := small_of h2 ht2
  have a := shares_clean h hS
  have b := tags_clean ht
  have c := shares_clean h2 hS2
  have d := tags_clean ht2
  rw [Bool.eq_iff_iff, sameB_iff, tl_iff]
  constructor
  · rintro ⟨e1, e2⟩; rw [pieces, pieces, e1, e2]
  · intro e
    have e := joinB_inj (p := pieces l t) (q := pieces l2 t2) (by have := good_ne h; simp [pieces, this]) (by have := good_ne h2; simp [pieces, this]) (by
      intro x hx
      rcases List.mem_append.1 hx with hx | hx
      · exact a.2 x hx
      · exact b.2 x hx) (by
      intro x hx
      rcases List.mem_append.1 hx with hx | hx
      · exact c.2 x hx
      · exact d.2 x hx) e
    exact split_pieces _ _ _ _ a.1 c.1 b.1 d.1 e
theorem TableSame : damperlaw5_TableSame.Pure := by
  intro l0 l1 l2 l3 w0 w1 w2 w3
  obtain ⟨l, t, hl, ht, hM⟩ := make_ok l0 l1 w0.1 w1.1 3000 (by omega)
  obtain ⟨l', t', hl', ht', hM'⟩ := make_ok l2 l3 w2.1 w3.1 3000 (by omega)
  have hS := small_of hl ht
  have hS' := small_of hl' ht'
  have hC : Small l (t ++ [⟨(⟨#[122]⟩ : ByteArray), (⟨#[119, 101, 98, 45, 49]⟩ : ByteArray)⟩]) := by
    have b := ht.1.length_le
    rw [List.length_map] at b
    have b4 : tnames.length = 4 := rfl
    refine ⟨hS.1, by simp; omega, hS.2.2.1, fun x hx => ?_⟩
    rcases List.mem_append.1 hx with hx | hx
    · exact hS.2.2.2 x hx
    · obtain rfl := List.mem_singleton.1 hx
      exact ⟨by show (1 : Nat) ≤ 100; omega, by show (5 : Nat) ≤ 100; omega⟩
  have hlen := hS.2.1
  refine ⟨3000, ?_⟩
  unfold damperlaw5_TableSame.f
  rw [known_ok 3000 (by omega), Option.bind_some, if_pos rfl, hM, Option.bind_some, hM', Option.bind_some, Option.bind_some]
  simp only
  rw [if_pos (by omega), show (3000 : Nat) = 2999 + 1 from rfl, damperlaw5_TableSame.j0, sameT_eq hS hS' 2999 (by omega), Option.bind_some, text_eq hS 2999 (by omega), Option.bind_some, text_eq hS' 2999 (by omega), Option.bind_some, ← same_text hl ht hl' ht', beq_self_eq_true, if_pos rfl, sameT_eq hS hC 2999 (by omega), Option.bind_some]
  have n1 : sameB l t l (t ++ [⟨(⟨#[122]⟩ : ByteArray), (⟨#[119, 101, 98, 45, 49]⟩ : ByteArray)⟩]) = false := by
    rw [Bool.eq_false_iff]
    intro h
    have := congrArg List.length ((sameB_eq hS hC).1 h).2
    simp at this
  rw [n1, if_neg (by decide), sameT_eq hC hS 2999 (by omega), Option.bind_some, sameB_comm, n1, if_neg (by decide), sameT_eq hS' hS 2999 (by omega), Option.bind_some, Option.bind_some, sameB_comm, beq_self_eq_true]
end Go.Proofs.YtckcimahclpdfaaDoor.Pure
