-- Written by a program of this session (wip/tools/myprint.py), in the form of the kit's print. Not trusted: Lean checks it.
import Derived.Test.YthdpnbfjpbiieaaDoorMax0
import Derived.Test.YthdpnbfjpbiieaaDoorMax13
import Derived.Test.YthdpnbfjpbiieaaDoorMax14
import Derived.Test.YthdpnbfjpbiieaaDoorMax23
namespace Go.Proofs.YthdpnbfjpbiieaaDoor.Ma
open Go.RowKit Go.Proofs.YthdpnbfjpbiieaaDoorW.PrintWords Go.Proofs.YthdpnbfjpbiieaaDoorW.PrintLast Go.Proofs.YthdpnbfjpbiieaaDoorW.PrintMore
attribute [local go_sem] max2_int min2_int max_two min_two max_three min_three max_four min_four   -- for this text's walks alone
set_option linter.unusedVariables false
set_option linter.unusedSimpArgs false

/-! ### damperlaw2_SpecTargets: function 7 -/
/-- The rows of targets, one by one, and what is to be said of each. -/
def tgRows : List (List S41) :=
  [[⟨⟨#[]⟩, ⟨#[]⟩, 100⟩], [], [⟨⟨#[]⟩, ⟨#[]⟩, 50⟩, ⟨⟨#[]⟩, ⟨#[]⟩, 50⟩], [⟨⟨#[]⟩, ⟨#[]⟩, 50⟩, ⟨⟨#[]⟩, ⟨#[]⟩, 51⟩], [⟨⟨#[97, 45, 49]⟩, ⟨#[]⟩, 100⟩], [⟨⟨#[97]⟩, ⟨#[]⟩, 100⟩],
   [⟨⟨#[]⟩, ⟨#[116, 111, 111, 108, 111, 110, 103, 116, 97, 103]⟩, 100⟩], [⟨⟨#[]⟩, ⟨#[120]⟩, 60⟩, ⟨⟨#[]⟩, ⟨#[120]⟩, 40⟩],
   [⟨⟨#[]⟩, ⟨#[]⟩, 100⟩, ⟨⟨#[]⟩, ⟨#[]⟩, 0⟩, ⟨⟨#[]⟩, ⟨#[]⟩, 0⟩, ⟨⟨#[]⟩, ⟨#[]⟩, 0⟩, ⟨⟨#[]⟩, ⟨#[]⟩, 0⟩, ⟨⟨#[]⟩, ⟨#[]⟩, 0⟩],
   [⟨⟨#[]⟩, ⟨#[]⟩, 100⟩, ⟨⟨#[]⟩, ⟨#[]⟩, 0⟩, ⟨⟨#[]⟩, ⟨#[]⟩, 0⟩, ⟨⟨#[]⟩, ⟨#[]⟩, 0⟩, ⟨⟨#[]⟩, ⟨#[]⟩, 0⟩, ⟨⟨#[]⟩, ⟨#[]⟩, 0⟩, ⟨⟨#[]⟩, ⟨#[]⟩, 0⟩],
   [⟨⟨#[]⟩, ⟨#[]⟩, 101⟩, ⟨⟨#[65]⟩, ⟨#[]⟩, 100⟩], [⟨⟨#[65]⟩, ⟨#[]⟩, 101⟩], [⟨⟨#[]⟩, ⟨#[]⟩, -1⟩, ⟨⟨#[]⟩, ⟨#[]⟩, 101⟩], [⟨⟨#[]⟩, ⟨#[120]⟩, 0⟩, ⟨⟨#[]⟩, ⟨#[120]⟩, 99⟩], [⟨⟨#[]⟩, ⟨#[]⟩, 0⟩, ⟨⟨#[]⟩, ⟨#[]⟩, 100⟩]]
def tgWant : List Int := [0, 3, 0, 4, 0, 1, 1, 5, 0, 3, 2, 1, 2, 5, 0]
def tgRow (i : Int) : List S41 := tgRows.getD i.toNat []
def tgErr (i : Int) : Int := tgWant.getD i.toNat 0
def tc (x : S41) : List Value := [.string x.f0, .string x.f1, .int .i64 x.f2]
theorem tc_get : ∀ (xs : List S41) (j : Nat) (p : S41), xs[j]? = some p → ∀ i u, (tc p)[i]? = some u → (xs.flatMap tc)[j * 3 + i]? = some u
  | [], j, p, h, i, u, hu => by simp at h
  | x :: xs, 0, p, h, i, u, hu => by
    obtain rfl : x = p := by simpa using h
    have hi : i < (tc x).length := (List.getElem?_eq_some_iff.1 hu).1
    rw [List.flatMap_cons, Nat.zero_mul, Nat.zero_add, List.getElem?_append_left hi]
    exact hu
  | x :: xs, j + 1, p, h, i, u, hu => by
    have h' : xs[j]? = some p := by simpa using h
    rw [List.flatMap_cons, List.getElem?_append_right (by show 3 ≤ _; omega)]
    have e : (j + 1) * 3 + i - (tc x).length = j * 3 + i := by show (j + 1) * 3 + i - 3 = _; omega
    rw [e]
    exact tc_get xs j p h' i u hu
/-- A row of targets out of its block. -/
theorem tg_row {w : World} {g t : Nat} {cs : Array Value} (xs : List S41) (h : w.heap[g]? = some (.cells cs t (0, 0))) (hc : cs.toList = xs.flatMap tc) (hm : xs.length ≤ 9223372036854775807) : Kd.C k41 w (some ⟨g, 0, none⟩) xs.length xs := by
  refine ⟨rfl, hm, fun _ => ⟨⟨g, 0, none⟩, rfl, fun j p hj => ⟨tc p, rfl, ⟨[.string p.f0], [.string p.f1, .int .i64 p.f2], rfl, rfl, ⟨[.string p.f1], [.int .i64 p.f2], rfl, rfl, rfl⟩⟩, fun i u hu => ?_⟩⟩⟩
  show w.cell? ((⟨g, 0, none⟩ : Addr).add (j * 3 + i)) = some u
  rw [Addr.add_lit, Nat.zero_add, blk_cell h]
  have := tc_get xs j p hj i u hu
  rw [← hc] at this
  simpa using this
theorem blk_here {w : World} {cs : Array Value} {t n : Nat} (h : n = w.heap.size) : (w.alloc (.cells cs t)).heap[n]? = some (.cells cs t (0, 0)) := by
  subst h; exact blk_new _ _
theorem blk_skip {w : World} {o : Obj} {n : Nat} {r : Option Obj} (h : n < w.heap.size) (hr : w.heap[n]? = r) : (w.alloc o).heap[n]? = r :=
  ((below_alloc (Below.refl w.heap.size w) o).block n h).trans hr
theorem cells4 {w : World} {g t : Nat} {a b c d : Value} (h : w.heap[g]? = some (.cells #[a, b, c, d] t (0, 0))) : w.cell? ⟨g, 0, none⟩ = some a ∧ w.cell? ⟨g, 1, none⟩ = some b ∧ w.cell? ⟨g, 2, none⟩ = some c ∧ w.cell? ⟨g, 3, none⟩ = some d :=
  ⟨(blk_cell h 0).trans rfl, (blk_cell h 1).trans rfl, (blk_cell h 2).trans rfl, (blk_cell h 3).trans rfl⟩
def damperlaw2_SpecTargets.f (k : Nat) (a0 : Int) : Option Bool :=
  if damperlaw2_known.f k = some true ∧ spec_Route.f k ⟨#[114]⟩ ⟨#[97]⟩ (tgRow (wi a0 15)) 0 = some (tgErr (wi a0 15)) ∧ spec_Route.f k ⟨#[114]⟩ ⟨#[45]⟩ (tgRow (wi a0 15)) 0 = some 1 ∧ spec_Route.f k ⟨#[114]⟩ ⟨#[97]⟩ (tgRow (wi a0 15)) 61 = some 2 ∧ damperref2_Route.f k ⟨#[114]⟩ ⟨#[97]⟩ (tgRow (wi a0 15)) 0 = some (tgErr (wi a0 15)) then some true else none
set_option maxHeartbeats 16000000 in
set_option maxRecDepth 100000 in
theorem damperlaw2_SpecTargets.calls (k : Nat) (a0 : Int) (r : Bool) (w : World) (hLd_ : Aside0 (LaidW w)) (hr0_ : Aside0 (r = true)) (h : damperlaw2_SpecTargets.f k a0 = some r) :
    Calls Tryd.prog 7 #[.int .i64 a0] w fun e w' => e = .returned (.bool r) ∧ Below w.heap.size w w' := by
  unfold damperlaw2_SpecTargets.f at h
  split at h
  case isFalse => cases h
  rename_i hh
  obtain ⟨i, hwi⟩ : ∃ i, wi a0 15 = i := ⟨_, rfl⟩
  have hi := wi_bd hwi (by decide) (by decide)
  rw [hwi] at hh
  obtain ⟨h1, h2, h3, h4, h5⟩ := hh
  obtain rfl := Option.some.inj h
  clear h
  have HI := Aside0.mk hi
  have HK := Aside0.mk h1
  have H2 := Aside0.mk h2
  have H3 := Aside0.mk h3
  have H4 := Aside0.mk h4
  have H5 := Aside0.mk h5
  clear h1 h2 h3 h4 h5 hi
  go_enter Tryd.func7, Tryd.ntmps7
  go_wp2_with fail
  refine (damperlaw2_known.calls k true _ ⟨hLd_.out⟩ HK.out).mono ?_
  rintro e w1 ⟨rfl, hb1⟩
  have HB1 := Aside0.mk hb1
  clear hb1 HK
  go_wp2_with fail
  refine (damperlaw2_within.keep a0 15 hwi (by decide) _).mono ?_
  rintro e w2 ⟨rfl, hW⟩
  have hb2 : Below w.heap.size w w2 := by
    rw [← hW]
    repeat (first | exact HB1.out | apply below_alloc)
  have key : ∃ A c, w2.cell? ⟨w1.heap.size + 1 + 1 + 1 + 1 + 1 + 1 + 1 + 1 + 1 + 1 + 1 + 1 + 1 + 1 + 1, i.toNat, none⟩ = some (.slice A (tgRow i).length c) ∧ (tgRow i).length ≤ c ∧ Kd.C k41 w2 A (tgRow i).length (tgRow i) ∧ w2.cell? ⟨w1.heap.size + 1 + 1 + 1 + 1 + 1 + 1 + 1 + 1 + 1 + 1 + 1 + 1 + 1 + 1 + 1 + 1, i.toNat, none⟩ = some (.int .i64 (tgErr i)) := by
    have h1 : w2.heap[w1.heap.size + 1]? = some (.cells #[.string ⟨#[]⟩, .string ⟨#[]⟩, .int .i64 100] 41 (0, 0)) := by
      rw [← hW]
      repeat (first | exact blk_here (by first | omega | (simp only [World.size_alloc] <;> omega)) | refine blk_skip (by first | omega | (simp only [World.size_alloc] <;> omega)) ?_)
    have h2 : w2.heap[w1.heap.size + 1 + 1]? = some (.cells #[.string ⟨#[]⟩, .string ⟨#[]⟩, .int .i64 50, .string ⟨#[]⟩, .string ⟨#[]⟩, .int .i64 50] 41 (0, 0)) := by
      rw [← hW]
      repeat (first | exact blk_here (by first | omega | (simp only [World.size_alloc] <;> omega)) | refine blk_skip (by first | omega | (simp only [World.size_alloc] <;> omega)) ?_)
    have h3 : w2.heap[w1.heap.size + 1 + 1 + 1]? = some (.cells #[.string ⟨#[]⟩, .string ⟨#[]⟩, .int .i64 50, .string ⟨#[]⟩, .string ⟨#[]⟩, .int .i64 51] 41 (0, 0)) := by
      rw [← hW]
      repeat (first | exact blk_here (by first | omega | (simp only [World.size_alloc] <;> omega)) | refine blk_skip (by first | omega | (simp only [World.size_alloc] <;> omega)) ?_)
    have h4 : w2.heap[w1.heap.size + 1 + 1 + 1 + 1]? = some (.cells #[.string ⟨#[97, 45, 49]⟩, .string ⟨#[]⟩, .int .i64 100] 41 (0, 0)) := by
      rw [← hW]
      repeat (first | exact blk_here (by first | omega | (simp only [World.size_alloc] <;> omega)) | refine blk_skip (by first | omega | (simp only [World.size_alloc] <;> omega)) ?_)
    have h5 : w2.heap[w1.heap.size + 1 + 1 + 1 + 1 + 1]? = some (.cells #[.string ⟨#[97]⟩, .string ⟨#[]⟩, .int .i64 100] 41 (0, 0)) := by
      rw [← hW]
      repeat (first | exact blk_here (by first | omega | (simp only [World.size_alloc] <;> omega)) | refine blk_skip (by first | omega | (simp only [World.size_alloc] <;> omega)) ?_)
    have h6 : w2.heap[w1.heap.size + 1 + 1 + 1 + 1 + 1 + 1]? = some (.cells #[.string ⟨#[]⟩, .string ⟨#[116, 111, 111, 108, 111, 110, 103, 116, 97, 103]⟩, .int .i64 100] 41 (0, 0)) := by
      rw [← hW]
      repeat (first | exact blk_here (by first | omega | (simp only [World.size_alloc] <;> omega)) | refine blk_skip (by first | omega | (simp only [World.size_alloc] <;> omega)) ?_)
    have h7 : w2.heap[w1.heap.size + 1 + 1 + 1 + 1 + 1 + 1 + 1]? = some (.cells #[.string ⟨#[]⟩, .string ⟨#[120]⟩, .int .i64 60, .string ⟨#[]⟩, .string ⟨#[120]⟩, .int .i64 40] 41 (0, 0)) := by
      rw [← hW]
      repeat (first | exact blk_here (by first | omega | (simp only [World.size_alloc] <;> omega)) | refine blk_skip (by first | omega | (simp only [World.size_alloc] <;> omega)) ?_)
    have h8 : w2.heap[w1.heap.size + 1 + 1 + 1 + 1 + 1 + 1 + 1 + 1]? = some (.cells #[.string ⟨#[]⟩, .string ⟨#[]⟩, .int .i64 100, .string ⟨#[]⟩, .string ⟨#[]⟩, .int .i64 0, .string ⟨#[]⟩, .string ⟨#[]⟩, .int .i64 0, .string ⟨#[]⟩, .string ⟨#[]⟩, .int .i64 0, .string ⟨#[]⟩, .string ⟨#[]⟩, .int .i64 0, .string ⟨#[]⟩, .string ⟨#[]⟩, .int .i64 0] 41 (0, 0)) := by
      rw [← hW]
      repeat (first | exact blk_here (by first | omega | (simp only [World.size_alloc] <;> omega)) | refine blk_skip (by first | omega | (simp only [World.size_alloc] <;> omega)) ?_)
    have h9 : w2.heap[w1.heap.size + 1 + 1 + 1 + 1 + 1 + 1 + 1 + 1 + 1]? = some (.cells #[.string ⟨#[]⟩, .string ⟨#[]⟩, .int .i64 100, .string ⟨#[]⟩, .string ⟨#[]⟩, .int .i64 0, .string ⟨#[]⟩, .string ⟨#[]⟩, .int .i64 0, .string ⟨#[]⟩, .string ⟨#[]⟩, .int .i64 0, .string ⟨#[]⟩, .string ⟨#[]⟩, .int .i64 0, .string ⟨#[]⟩, .string ⟨#[]⟩, .int .i64 0, .string ⟨#[]⟩, .string ⟨#[]⟩, .int .i64 0] 41 (0, 0)) := by
      rw [← hW]
      repeat (first | exact blk_here (by first | omega | (simp only [World.size_alloc] <;> omega)) | refine blk_skip (by first | omega | (simp only [World.size_alloc] <;> omega)) ?_)
    have h10 : w2.heap[w1.heap.size + 1 + 1 + 1 + 1 + 1 + 1 + 1 + 1 + 1 + 1]? = some (.cells #[.string ⟨#[]⟩, .string ⟨#[]⟩, .int .i64 101, .string ⟨#[65]⟩, .string ⟨#[]⟩, .int .i64 100] 41 (0, 0)) := by
      rw [← hW]
      repeat (first | exact blk_here (by first | omega | (simp only [World.size_alloc] <;> omega)) | refine blk_skip (by first | omega | (simp only [World.size_alloc] <;> omega)) ?_)
    have h11 : w2.heap[w1.heap.size + 1 + 1 + 1 + 1 + 1 + 1 + 1 + 1 + 1 + 1 + 1]? = some (.cells #[.string ⟨#[65]⟩, .string ⟨#[]⟩, .int .i64 101] 41 (0, 0)) := by
      rw [← hW]
      repeat (first | exact blk_here (by first | omega | (simp only [World.size_alloc] <;> omega)) | refine blk_skip (by first | omega | (simp only [World.size_alloc] <;> omega)) ?_)
    have h12 : w2.heap[w1.heap.size + 1 + 1 + 1 + 1 + 1 + 1 + 1 + 1 + 1 + 1 + 1 + 1]? = some (.cells #[.string ⟨#[]⟩, .string ⟨#[]⟩, .int .i64 (-1), .string ⟨#[]⟩, .string ⟨#[]⟩, .int .i64 101] 41 (0, 0)) := by
      rw [← hW]
      repeat (first | exact blk_here (by first | omega | (simp only [World.size_alloc] <;> omega)) | refine blk_skip (by first | omega | (simp only [World.size_alloc] <;> omega)) ?_)
    have h13 : w2.heap[w1.heap.size + 1 + 1 + 1 + 1 + 1 + 1 + 1 + 1 + 1 + 1 + 1 + 1 + 1]? = some (.cells #[.string ⟨#[]⟩, .string ⟨#[120]⟩, .int .i64 0, .string ⟨#[]⟩, .string ⟨#[120]⟩, .int .i64 99] 41 (0, 0)) := by
      rw [← hW]
      repeat (first | exact blk_here (by first | omega | (simp only [World.size_alloc] <;> omega)) | refine blk_skip (by first | omega | (simp only [World.size_alloc] <;> omega)) ?_)
    have h14 : w2.heap[w1.heap.size + 1 + 1 + 1 + 1 + 1 + 1 + 1 + 1 + 1 + 1 + 1 + 1 + 1 + 1]? = some (.cells #[.string ⟨#[]⟩, .string ⟨#[]⟩, .int .i64 0, .string ⟨#[]⟩, .string ⟨#[]⟩, .int .i64 100] 41 (0, 0)) := by
      rw [← hW]
      repeat (first | exact blk_here (by first | omega | (simp only [World.size_alloc] <;> omega)) | refine blk_skip (by first | omega | (simp only [World.size_alloc] <;> omega)) ?_)
    have hO : w2.heap[w1.heap.size + 1 + 1 + 1 + 1 + 1 + 1 + 1 + 1 + 1 + 1 + 1 + 1 + 1 + 1 + 1]? = some (.cells #[.slice (some ⟨w1.heap.size + 1, 0, none⟩) 1 1, .slice none 0 0, .slice (some ⟨w1.heap.size + 1 + 1, 0, none⟩) 2 2, .slice (some ⟨w1.heap.size + 1 + 1 + 1, 0, none⟩) 2 2, .slice (some ⟨w1.heap.size + 1 + 1 + 1 + 1, 0, none⟩) 1 1, .slice (some ⟨w1.heap.size + 1 + 1 + 1 + 1 + 1, 0, none⟩) 1 1, .slice (some ⟨w1.heap.size + 1 + 1 + 1 + 1 + 1 + 1, 0, none⟩) 1 1, .slice (some ⟨w1.heap.size + 1 + 1 + 1 + 1 + 1 + 1 + 1, 0, none⟩) 2 2, .slice (some ⟨w1.heap.size + 1 + 1 + 1 + 1 + 1 + 1 + 1 + 1, 0, none⟩) 6 6, .slice (some ⟨w1.heap.size + 1 + 1 + 1 + 1 + 1 + 1 + 1 + 1 + 1, 0, none⟩) 7 7, .slice (some ⟨w1.heap.size + 1 + 1 + 1 + 1 + 1 + 1 + 1 + 1 + 1 + 1, 0, none⟩) 2 2, .slice (some ⟨w1.heap.size + 1 + 1 + 1 + 1 + 1 + 1 + 1 + 1 + 1 + 1 + 1, 0, none⟩) 1 1, .slice (some ⟨w1.heap.size + 1 + 1 + 1 + 1 + 1 + 1 + 1 + 1 + 1 + 1 + 1 + 1, 0, none⟩) 2 2, .slice (some ⟨w1.heap.size + 1 + 1 + 1 + 1 + 1 + 1 + 1 + 1 + 1 + 1 + 1 + 1 + 1, 0, none⟩) 2 2, .slice (some ⟨w1.heap.size + 1 + 1 + 1 + 1 + 1 + 1 + 1 + 1 + 1 + 1 + 1 + 1 + 1 + 1, 0, none⟩) 2 2] 33 (0, 0)) := by
      rw [← hW]
      repeat (first | exact blk_here (by first | omega | (simp only [World.size_alloc] <;> omega)) | refine blk_skip (by first | omega | (simp only [World.size_alloc] <;> omega)) ?_)
    have hE : w2.heap[w1.heap.size + 1 + 1 + 1 + 1 + 1 + 1 + 1 + 1 + 1 + 1 + 1 + 1 + 1 + 1 + 1 + 1]? = some (.cells #[.int .i64 0, .int .i64 3, .int .i64 0, .int .i64 4, .int .i64 0, .int .i64 1, .int .i64 1, .int .i64 5, .int .i64 0, .int .i64 3, .int .i64 2, .int .i64 1, .int .i64 2, .int .i64 5, .int .i64 0] 27 (0, 0)) := by
      rw [← hW]
      repeat (first | exact blk_here (by first | omega | (simp only [World.size_alloc] <;> omega)) | refine blk_skip (by first | omega | (simp only [World.size_alloc] <;> omega)) ?_)
    have hi := HI.out
    rcases (show i = 0 ∨ i = 1 ∨ i = 2 ∨ i = 3 ∨ i = 4 ∨ i = 5 ∨ i = 6 ∨ i = 7 ∨ i = 8 ∨ i = 9 ∨ i = 10 ∨ i = 11 ∨ i = 12 ∨ i = 13 ∨ i = 14 by omega) with rfl | rfl | rfl | rfl | rfl | rfl | rfl | rfl | rfl | rfl | rfl | rfl | rfl | rfl | rfl
    · refine ⟨_, _, (blk_cell hO 0).trans rfl, by decide, ?_, (blk_cell hE 0).trans rfl⟩
      exact tg_row _ h1 rfl (by decide)
    · refine ⟨_, _, (blk_cell hO 1).trans rfl, by decide, ?_, (blk_cell hE 1).trans rfl⟩
      exact Kd.C_nil _ _
    · refine ⟨_, _, (blk_cell hO 2).trans rfl, by decide, ?_, (blk_cell hE 2).trans rfl⟩
      exact tg_row _ h2 rfl (by decide)
    · refine ⟨_, _, (blk_cell hO 3).trans rfl, by decide, ?_, (blk_cell hE 3).trans rfl⟩
      exact tg_row _ h3 rfl (by decide)
    · refine ⟨_, _, (blk_cell hO 4).trans rfl, by decide, ?_, (blk_cell hE 4).trans rfl⟩
      exact tg_row _ h4 rfl (by decide)
    · refine ⟨_, _, (blk_cell hO 5).trans rfl, by decide, ?_, (blk_cell hE 5).trans rfl⟩
      exact tg_row _ h5 rfl (by decide)
    · refine ⟨_, _, (blk_cell hO 6).trans rfl, by decide, ?_, (blk_cell hE 6).trans rfl⟩
      exact tg_row _ h6 rfl (by decide)
    · refine ⟨_, _, (blk_cell hO 7).trans rfl, by decide, ?_, (blk_cell hE 7).trans rfl⟩
      exact tg_row _ h7 rfl (by decide)
    · refine ⟨_, _, (blk_cell hO 8).trans rfl, by decide, ?_, (blk_cell hE 8).trans rfl⟩
      exact tg_row _ h8 rfl (by decide)
    · refine ⟨_, _, (blk_cell hO 9).trans rfl, by decide, ?_, (blk_cell hE 9).trans rfl⟩
      exact tg_row _ h9 rfl (by decide)
    · refine ⟨_, _, (blk_cell hO 10).trans rfl, by decide, ?_, (blk_cell hE 10).trans rfl⟩
      exact tg_row _ h10 rfl (by decide)
    · refine ⟨_, _, (blk_cell hO 11).trans rfl, by decide, ?_, (blk_cell hE 11).trans rfl⟩
      exact tg_row _ h11 rfl (by decide)
    · refine ⟨_, _, (blk_cell hO 12).trans rfl, by decide, ?_, (blk_cell hE 12).trans rfl⟩
      exact tg_row _ h12 rfl (by decide)
    · refine ⟨_, _, (blk_cell hO 13).trans rfl, by decide, ?_, (blk_cell hE 13).trans rfl⟩
      exact tg_row _ h13 rfl (by decide)
    · refine ⟨_, _, (blk_cell hO 14).trans rfl, by decide, ?_, (blk_cell hE 14).trans rfl⟩
      exact tg_row _ h14 rfl (by decide)
  clear hW
  obtain ⟨A, c, q0, hc, hC, q1⟩ := key
  have HCr := Aside0.mk hC
  have HCc := Aside0.mk hc
  have HB2 := Aside0.mk hb2
  clear hC hc hb2 HB1
  have hlen : ((tgRow i).length : Int) = ((tgRow i).length : Int) := rfl
  obtain ⟨hi0, hi1⟩ := HI.out
  have x0 := eq_true hi0
  have x1 := eq_true (show i < 15 by omega)
  have d0 : decide (i < 15) = true := decide_eq_true (by omega)
  generalize tgRow i = l at q0 HCr HCc H2 H3 H4 H5
  generalize tgErr i = er at q1 H2 H5
  clear hlen
  go_wp2_with fail
  generalize hW3 : World.alloc _ _ = W3
  have q_k : Below w2.heap.size w2 W3.drew := by
    rw [← hW3]
    exact below_drew1 (below_alloc (below_alloc (below_alloc (Below.refl _ _) _) _) _)
  have q_B : Below w.heap.size w W3.drew := below_step HB2.out q_k
  have q_C : Kd.C k41 W3.drew A l.length l := Kd.C_below HCr.out q_k
  have q_E : W3.drew.cell? ⟨w1.heap.size + 1 + 1 + 1 + 1 + 1 + 1 + 1 + 1 + 1 + 1 + 1 + 1 + 1 + 1 + 1 + 1, i.toNat, none⟩ = some (.int .i64 er) := (q_k.cell (World.block_lt_of_cell? _ _ q1)).trans q1
  have q_7 : W3.drew.heap[w2.heap.size]? = some (.cells #[.string ⟨#[114]⟩, .string ⟨#[97]⟩, .slice A l.length c, .int .i64 0] 35 (0, 0)) := by
    rw [← hW3]
    refine blk_drew ?_
    repeat (first | exact blk_here (by first | omega | (simp only [World.size_alloc] <;> omega)) | refine blk_skip (by first | omega | (simp only [World.size_alloc] <;> omega)) ?_)
  have q_8 : W3.drew.heap[w2.heap.size + 1]? = some (.cells #[.string ⟨#[114]⟩, .string ⟨#[45]⟩, .slice A l.length c, .int .i64 0] 35 (0, 0)) := by
    rw [← hW3]
    refine blk_drew ?_
    repeat (first | exact blk_here (by first | omega | (simp only [World.size_alloc] <;> omega)) | refine blk_skip (by first | omega | (simp only [World.size_alloc] <;> omega)) ?_)
  have q_9 : W3.drew.heap[w2.heap.size + 1 + 1]? = some (.cells #[.string ⟨#[114]⟩, .string ⟨#[97]⟩, .slice A l.length c, .int .i64 61] 35 (0, 0)) := by
    rw [← hW3]
    refine blk_drew ?_
    repeat (first | exact blk_here (by first | omega | (simp only [World.size_alloc] <;> omega)) | refine blk_skip (by first | omega | (simp only [World.size_alloc] <;> omega)) ?_)
  clear hW3 q_k
  refine start_ (n := 27) (S := fun w' => Below w.heap.size w w' ∧ Kd.C k41 w' A l.length l ∧ w'.heap[w2.heap.size]? = some (.cells #[.string ⟨#[114]⟩, .string ⟨#[97]⟩, .slice A l.length c, .int .i64 0] 35 (0, 0)) ∧ w'.heap[w2.heap.size + 1]? = some (.cells #[.string ⟨#[114]⟩, .string ⟨#[45]⟩, .slice A l.length c, .int .i64 0] 35 (0, 0)) ∧ w'.heap[w2.heap.size + 1 + 1]? = some (.cells #[.string ⟨#[114]⟩, .string ⟨#[97]⟩, .slice A l.length c, .int .i64 61] 35 (0, 0)) ∧ w'.cell? ⟨w1.heap.size + 1 + 1 + 1 + 1 + 1 + 1 + 1 + 1 + 1 + 1 + 1 + 1 + 1 + 1 + 1 + 1, i.toNat, none⟩ = some (.int .i64 er)) (ds := []) #[false, false, false, false, false, false, false, false, false, false, false, false, false, false, false, false, false, false, false, false, false, false, false, false, false, false, false] (by kernel_rfl) rfl rfl ⟨q_B, q_C, q_7, q_8, q_9, q_E⟩ (fun hHeld => ?_)
  refine pure_ (i := 2) (N := some 76) (v := ?_) (a' := ?_) #[false, false, true, false, false, false, false, false, false, false, false, false, false, false, false, false, false, false, false, false, false, false, false, false, false, false, false] rfl rfl (by kernel_rfl) (fun _ _ _ h => h) (Or.inl ⟨by rfl, ?_⟩) ?_ ?_
  rotate_left
  · intro w'
    go_simp
    with_reducible rfl
  rotate_left
  · simp only [Act.put, List.setIfInBounds_toArray, List.set_cons_zero, List.set_cons_succ, i64_w, i32_w]
    rfl
  refine pure_ (i := 3) (N := some 77) (v := ?_) (a' := ?_) #[false, false, true, true, false, false, false, false, false, false, false, false, false, false, false, false, false, false, false, false, false, false, false, false, false, false, false] rfl rfl (by kernel_rfl) (fun _ _ _ h => h) (Or.inl ⟨by rfl, ?_⟩) ?_ ?_
  rotate_left
  · intro w'
    go_simp
    with_reducible rfl
  rotate_left
  · simp only [Act.put, List.setIfInBounds_toArray, List.set_cons_zero, List.set_cons_succ, i64_w, i32_w]
    rfl
  refine pure_ (i := 4) (N := some 78) (v := ?_) (a' := ?_) #[false, false, true, true, true, false, false, false, false, false, false, false, false, false, false, false, false, false, false, false, false, false, false, false, false, false, false] rfl rfl (by kernel_rfl) (fun _ _ _ h => h) (Or.inl ⟨by rfl, ?_⟩) ?_ ?_
  rotate_left
  · intro w'
    go_simp
    with_reducible rfl
  rotate_left
  · simp only [Act.put, List.setIfInBounds_toArray, List.set_cons_zero, List.set_cons_succ, i64_w, i32_w]
    rfl
  refine take_ (i := 0) (N := some 74) (v := ?_) (a' := ?_) #[true, false, true, true, true, false, false, false, false, false, false, false, false, false, false, false, false, false, false, false, false, false, false, false, false, false, false] rfl rfl (by kernel_rfl) (fun _ _ _ h => h) (Or.inl ⟨by rfl, ?_⟩) hHeld ?_ ?_
  rotate_left
  · rintro w' ⟨s0, s1, s2, s3, s4, s5⟩
    obtain ⟨e70, e71, e72, e73⟩ := cells4 s2
    obtain ⟨e80, e81, e82, e83⟩ := cells4 s3
    obtain ⟨e90, e91, e92, e93⟩ := cells4 s4
    go_simp
    with_reducible rfl
  rotate_left
  · simp only [Act.put, List.setIfInBounds_toArray, List.set_cons_zero, List.set_cons_succ, i64_w, i32_w]
    rfl
  refine take_ (i := 5) (N := some 79) (v := ?_) (a' := ?_) #[true, false, true, true, true, true, false, false, false, false, false, false, false, false, false, false, false, false, false, false, false, false, false, false, false, false, false] rfl rfl (by kernel_rfl) (fun _ _ _ h => h) (Or.inl ⟨by rfl, ?_⟩) hHeld ?_ ?_
  rotate_left
  · rintro w' ⟨s0, s1, s2, s3, s4, s5⟩
    obtain ⟨e70, e71, e72, e73⟩ := cells4 s2
    obtain ⟨e80, e81, e82, e83⟩ := cells4 s3
    obtain ⟨e90, e91, e92, e93⟩ := cells4 s4
    go_simp
    with_reducible rfl
  rotate_left
  · simp only [Act.put, List.setIfInBounds_toArray, List.set_cons_zero, List.set_cons_succ, i64_w, i32_w]
    rfl
  refine one_ (i := 1) (N := some 75) #[true, true, true, true, true, true, false, false, false, false, false, false, false, false, false, false, false, false, false, false, false, false, false, false, false, false, false] rfl rfl (by kernel_rfl) (by decide) (fun K hK => ?_)
  refine goes_ Tryd.func19 (by kernel_rfl) rfl #[.agg #[.string ⟨#[114]⟩, .string ⟨#[97]⟩, .slice A l.length c, .int .i64 0]] (by rfl) rfl rfl (by simp only [List.map_toArray, List.map_cons, List.map_nil]; rfl) ?_
  with_reducible refine (spec_Route.calls k ⟨#[114]⟩ ⟨#[97]⟩ A c l 0 er _ ⟨hLd_.out.below hHeld.1⟩ hHeld.2.1 HCc.out H2.out).mono ?_
  rintro e w4 ⟨rfl, hb⟩
  refine ⟨_, rfl, ?_⟩
  refine hK.out _ _ ⟨below_step hHeld.1 hb, Kd.C_below hHeld.2.1 hb, blk_below hHeld.2.2.1 hb, blk_below hHeld.2.2.2.1 hb, blk_below hHeld.2.2.2.2.1 hb, (hb.cell (World.block_lt_of_cell? _ _ hHeld.2.2.2.2.2)).trans hHeld.2.2.2.2.2⟩ (fun hHeld => ?_)
  clear hK K
  refine norm_ (a' := ?_) ?_ ?_
  rotate_left
  · show Act.put _ (some 75) _ = _
    simp only [Act.put, List.setIfInBounds_toArray, List.set_cons_zero, List.set_cons_succ, i64_w, i32_w]
    rfl
  refine pure_ (i := 6) (N := some 80) (v := ?_) (a' := ?_) #[true, true, true, true, true, true, true, false, false, false, false, false, false, false, false, false, false, false, false, false, false, false, false, false, false, false, false] rfl rfl (by kernel_rfl) (fun _ _ _ h => h) (Or.inl ⟨by rfl, ?_⟩) ?_ ?_
  rotate_left
  · intro w'
    go_simp
    with_reducible rfl
  rotate_left
  · simp only [Act.put, List.setIfInBounds_toArray, List.set_cons_zero, List.set_cons_succ, i64_w, i32_w]
    rfl
  refine pure_ (i := 7) (N := some 81) (v := ?_) (a' := ?_) #[true, true, true, true, true, true, true, true, false, false, false, false, false, false, false, false, false, false, false, false, false, false, false, false, false, false, false] rfl rfl (by kernel_rfl) (fun _ _ _ h => h) (Or.inl ⟨by rfl, ?_⟩) ?_ ?_
  rotate_left
  · intro w'
    go_simp
    with_reducible rfl
  rotate_left
  · simp only [Act.put, List.setIfInBounds_toArray, List.set_cons_zero, List.set_cons_succ, i64_w, i32_w]
    rfl
  refine take_ (i := 8) (N := some 82) (v := ?_) (a' := ?_) #[true, true, true, true, true, true, true, true, true, false, false, false, false, false, false, false, false, false, false, false, false, false, false, false, false, false, false] rfl rfl (by kernel_rfl) (fun _ _ _ h => h) (Or.inl ⟨by rfl, ?_⟩) hHeld ?_ ?_
  rotate_left
  · rintro w' ⟨s0, s1, s2, s3, s4, s5⟩
    obtain ⟨e70, e71, e72, e73⟩ := cells4 s2
    obtain ⟨e80, e81, e82, e83⟩ := cells4 s3
    obtain ⟨e90, e91, e92, e93⟩ := cells4 s4
    go_simp
    with_reducible rfl
  rotate_left
  · simp only [Act.put, List.setIfInBounds_toArray, List.set_cons_zero, List.set_cons_succ, i64_w, i32_w]
    rfl
  refine one_ (i := 9) (N := some 83) #[true, true, true, true, true, true, true, true, true, true, false, false, false, false, false, false, false, false, false, false, false, false, false, false, false, false, false] rfl rfl (by kernel_rfl) (by decide) (fun K hK => ?_)
  refine goes_ Tryd.func19 (by kernel_rfl) rfl #[.agg #[.string ⟨#[114]⟩, .string ⟨#[45]⟩, .slice A l.length c, .int .i64 0]] (by rfl) rfl rfl (by simp only [List.map_toArray, List.map_cons, List.map_nil]; rfl) ?_
  with_reducible refine (spec_Route.calls k ⟨#[114]⟩ ⟨#[45]⟩ A c l 0 1 _ ⟨hLd_.out.below hHeld.1⟩ hHeld.2.1 HCc.out H3.out).mono ?_
  rintro e w4 ⟨rfl, hb⟩
  refine ⟨_, rfl, ?_⟩
  refine hK.out _ _ ⟨below_step hHeld.1 hb, Kd.C_below hHeld.2.1 hb, blk_below hHeld.2.2.1 hb, blk_below hHeld.2.2.2.1 hb, blk_below hHeld.2.2.2.2.1 hb, (hb.cell (World.block_lt_of_cell? _ _ hHeld.2.2.2.2.2)).trans hHeld.2.2.2.2.2⟩ (fun hHeld => ?_)
  clear hK K
  refine norm_ (a' := ?_) ?_ ?_
  rotate_left
  · show Act.put _ (some 83) _ = _
    simp only [Act.put, List.setIfInBounds_toArray, List.set_cons_zero, List.set_cons_succ, i64_w, i32_w]
    rfl
  refine pure_ (i := 10) (N := some 84) (v := ?_) (a' := ?_) #[true, true, true, true, true, true, true, true, true, true, true, false, false, false, false, false, false, false, false, false, false, false, false, false, false, false, false] rfl rfl (by kernel_rfl) (fun _ _ _ h => h) (Or.inl ⟨by rfl, ?_⟩) ?_ ?_
  rotate_left
  · intro w'
    go_simp
    with_reducible rfl
  rotate_left
  · simp only [Act.put, List.setIfInBounds_toArray, List.set_cons_zero, List.set_cons_succ, i64_w, i32_w]
    rfl
  refine pure_ (i := 11) (N := some 85) (v := ?_) (a' := ?_) #[true, true, true, true, true, true, true, true, true, true, true, true, false, false, false, false, false, false, false, false, false, false, false, false, false, false, false] rfl rfl (by kernel_rfl) (fun _ _ _ h => h) (Or.inl ⟨by rfl, ?_⟩) ?_ ?_
  rotate_left
  · intro w'
    go_simp
    with_reducible rfl
  rotate_left
  · simp only [Act.put, List.setIfInBounds_toArray, List.set_cons_zero, List.set_cons_succ, i64_w, i32_w]
    rfl
  refine pure_ (i := 12) (N := some 86) (v := ?_) (a' := ?_) #[true, true, true, true, true, true, true, true, true, true, true, true, true, false, false, false, false, false, false, false, false, false, false, false, false, false, false] rfl rfl (by kernel_rfl) (fun _ _ _ h => h) (Or.inl ⟨by rfl, ?_⟩) ?_ ?_
  rotate_left
  · intro w'
    go_simp
    with_reducible rfl
  rotate_left
  · simp only [Act.put, List.setIfInBounds_toArray, List.set_cons_zero, List.set_cons_succ, i64_w, i32_w]
    rfl
  refine take_ (i := 13) (N := some 87) (v := ?_) (a' := ?_) #[true, true, true, true, true, true, true, true, true, true, true, true, true, true, false, false, false, false, false, false, false, false, false, false, false, false, false] rfl rfl (by kernel_rfl) (fun _ _ _ h => h) (Or.inl ⟨by rfl, ?_⟩) hHeld ?_ ?_
  rotate_left
  · rintro w' ⟨s0, s1, s2, s3, s4, s5⟩
    obtain ⟨e70, e71, e72, e73⟩ := cells4 s2
    obtain ⟨e80, e81, e82, e83⟩ := cells4 s3
    obtain ⟨e90, e91, e92, e93⟩ := cells4 s4
    go_simp
    with_reducible rfl
  rotate_left
  · simp only [Act.put, List.setIfInBounds_toArray, List.set_cons_zero, List.set_cons_succ, i64_w, i32_w]
    rfl
  refine one_ (i := 14) (N := some 88) #[true, true, true, true, true, true, true, true, true, true, true, true, true, true, true, false, false, false, false, false, false, false, false, false, false, false, false] rfl rfl (by kernel_rfl) (by decide) (fun K hK => ?_)
  refine goes_ Tryd.func19 (by kernel_rfl) rfl #[.agg #[.string ⟨#[114]⟩, .string ⟨#[97]⟩, .slice A l.length c, .int .i64 61]] (by rfl) rfl rfl (by simp only [List.map_toArray, List.map_cons, List.map_nil]; rfl) ?_
  with_reducible refine (spec_Route.calls k ⟨#[114]⟩ ⟨#[97]⟩ A c l 61 2 _ ⟨hLd_.out.below hHeld.1⟩ hHeld.2.1 HCc.out H4.out).mono ?_
  rintro e w4 ⟨rfl, hb⟩
  refine ⟨_, rfl, ?_⟩
  refine hK.out _ _ ⟨below_step hHeld.1 hb, Kd.C_below hHeld.2.1 hb, blk_below hHeld.2.2.1 hb, blk_below hHeld.2.2.2.1 hb, blk_below hHeld.2.2.2.2.1 hb, (hb.cell (World.block_lt_of_cell? _ _ hHeld.2.2.2.2.2)).trans hHeld.2.2.2.2.2⟩ (fun hHeld => ?_)
  clear hK K
  refine norm_ (a' := ?_) ?_ ?_
  rotate_left
  · show Act.put _ (some 88) _ = _
    simp only [Act.put, List.setIfInBounds_toArray, List.set_cons_zero, List.set_cons_succ, i64_w, i32_w]
    rfl
  refine pure_ (i := 15) (N := some 89) (v := ?_) (a' := ?_) #[true, true, true, true, true, true, true, true, true, true, true, true, true, true, true, true, false, false, false, false, false, false, false, false, false, false, false] rfl rfl (by kernel_rfl) (fun _ _ _ h => h) (Or.inl ⟨by rfl, ?_⟩) ?_ ?_
  rotate_left
  · intro w'
    go_simp
    with_reducible rfl
  rotate_left
  · simp only [Act.put, List.setIfInBounds_toArray, List.set_cons_zero, List.set_cons_succ, i64_w, i32_w]
    rfl
  refine pure_ (i := 16) (N := some 90) (v := ?_) (a' := ?_) #[true, true, true, true, true, true, true, true, true, true, true, true, true, true, true, true, true, false, false, false, false, false, false, false, false, false, false] rfl rfl (by kernel_rfl) (fun _ _ _ h => h) (Or.inl ⟨by rfl, ?_⟩) ?_ ?_
  rotate_left
  · intro w'
    go_simp
    with_reducible rfl
  rotate_left
  · simp only [Act.put, List.setIfInBounds_toArray, List.set_cons_zero, List.set_cons_succ, i64_w, i32_w]
    rfl
  refine pure_ (i := 17) (N := some 91) (v := ?_) (a' := ?_) #[true, true, true, true, true, true, true, true, true, true, true, true, true, true, true, true, true, true, false, false, false, false, false, false, false, false, false] rfl rfl (by kernel_rfl) (fun _ _ _ h => h) (Or.inl ⟨by rfl, ?_⟩) ?_ ?_
  rotate_left
  · intro w'
    go_simp
    with_reducible rfl
  rotate_left
  · simp only [Act.put, List.setIfInBounds_toArray, List.set_cons_zero, List.set_cons_succ, i64_w, i32_w]
    rfl
  refine pure_ (i := 20) (N := some 94) (v := ?_) (a' := ?_) #[true, true, true, true, true, true, true, true, true, true, true, true, true, true, true, true, true, true, false, false, true, false, false, false, false, false, false] rfl rfl (by kernel_rfl) (fun _ _ _ h => h) (Or.inl ⟨by rfl, ?_⟩) ?_ ?_
  rotate_left
  · intro w'
    go_simp
    with_reducible rfl
  rotate_left
  · simp only [Act.put, List.setIfInBounds_toArray, List.set_cons_zero, List.set_cons_succ, i64_w, i32_w]
    rfl
  refine pure_ (i := 21) (N := some 95) (v := ?_) (a' := ?_) #[true, true, true, true, true, true, true, true, true, true, true, true, true, true, true, true, true, true, false, false, true, true, false, false, false, false, false] rfl rfl (by kernel_rfl) (fun _ _ _ h => h) (Or.inl ⟨by rfl, ?_⟩) ?_ ?_
  rotate_left
  · intro w'
    go_simp
    with_reducible rfl
  rotate_left
  · simp only [Act.put, List.setIfInBounds_toArray, List.set_cons_zero, List.set_cons_succ, i64_w, i32_w]
    rfl
  refine pure_ (i := 22) (N := some 96) (v := ?_) (a' := ?_) #[true, true, true, true, true, true, true, true, true, true, true, true, true, true, true, true, true, true, false, false, true, true, true, false, false, false, false] rfl rfl (by kernel_rfl) (fun _ _ _ h => h) (Or.inl ⟨by rfl, ?_⟩) ?_ ?_
  rotate_left
  · intro w'
    go_simp
    with_reducible rfl
  rotate_left
  · simp only [Act.put, List.setIfInBounds_toArray, List.set_cons_zero, List.set_cons_succ, i64_w, i32_w]
    rfl
  refine take_ (i := 18) (N := some 92) (v := ?_) (a' := ?_) #[true, true, true, true, true, true, true, true, true, true, true, true, true, true, true, true, true, true, true, false, true, true, true, false, false, false, false] rfl rfl (by kernel_rfl) (fun _ _ _ h => h) (Or.inl ⟨by rfl, ?_⟩) hHeld ?_ ?_
  rotate_left
  · rintro w' ⟨s0, s1, s2, s3, s4, s5⟩
    obtain ⟨e70, e71, e72, e73⟩ := cells4 s2
    obtain ⟨e80, e81, e82, e83⟩ := cells4 s3
    obtain ⟨e90, e91, e92, e93⟩ := cells4 s4
    go_simp
    with_reducible rfl
  rotate_left
  · simp only [Act.put, List.setIfInBounds_toArray, List.set_cons_zero, List.set_cons_succ, i64_w, i32_w]
    rfl
  refine take_ (i := 23) (N := some 97) (v := ?_) (a' := ?_) #[true, true, true, true, true, true, true, true, true, true, true, true, true, true, true, true, true, true, true, false, true, true, true, true, false, false, false] rfl rfl (by kernel_rfl) (fun _ _ _ h => h) (Or.inl ⟨by rfl, ?_⟩) hHeld ?_ ?_
  rotate_left
  · rintro w' ⟨s0, s1, s2, s3, s4, s5⟩
    obtain ⟨e70, e71, e72, e73⟩ := cells4 s2
    obtain ⟨e80, e81, e82, e83⟩ := cells4 s3
    obtain ⟨e90, e91, e92, e93⟩ := cells4 s4
    go_simp
    with_reducible rfl
  rotate_left
  · simp only [Act.put, List.setIfInBounds_toArray, List.set_cons_zero, List.set_cons_succ, i64_w, i32_w]
    rfl
  refine one_ (i := 19) (N := some 93) #[true, true, true, true, true, true, true, true, true, true, true, true, true, true, true, true, true, true, true, true, true, true, true, true, false, false, false] rfl rfl (by kernel_rfl) (by decide) (fun K hK => ?_)
  refine goes_ Tryd.func20 (by kernel_rfl) rfl #[.agg #[.string ⟨#[114]⟩, .string ⟨#[97]⟩, .slice A l.length c, .int .i64 0]] (by rfl) rfl rfl (by simp only [List.map_toArray, List.map_cons, List.map_nil]; rfl) ?_
  with_reducible refine (damperref2_Route.calls k ⟨#[114]⟩ ⟨#[97]⟩ A c l 0 er _ hHeld.2.1 HCc.out H5.out).mono ?_
  rintro e w4 ⟨rfl, hb⟩
  refine ⟨_, rfl, ?_⟩
  refine hK.out _ _ ⟨below_step hHeld.1 hb, Kd.C_below hHeld.2.1 hb, blk_below hHeld.2.2.1 hb, blk_below hHeld.2.2.2.1 hb, blk_below hHeld.2.2.2.2.1 hb, (hb.cell (World.block_lt_of_cell? _ _ hHeld.2.2.2.2.2)).trans hHeld.2.2.2.2.2⟩ (fun hHeld => ?_)
  clear hK K
  refine norm_ (a' := ?_) ?_ ?_
  rotate_left
  · show Act.put _ (some 93) _ = _
    simp only [Act.put, List.setIfInBounds_toArray, List.set_cons_zero, List.set_cons_succ, i64_w, i32_w]
    rfl
  refine pure_ (i := 24) (N := some 98) (v := ?_) (a' := ?_) #[true, true, true, true, true, true, true, true, true, true, true, true, true, true, true, true, true, true, true, true, true, true, true, true, true, false, false] rfl rfl (by kernel_rfl) (fun _ _ _ h => h) (Or.inl ⟨by rfl, ?_⟩) ?_ ?_
  rotate_left
  · intro w'
    go_simp
    with_reducible rfl
  rotate_left
  · simp only [Act.put, List.setIfInBounds_toArray, List.set_cons_zero, List.set_cons_succ, i64_w, i32_w]
    rfl
  refine pure_ (i := 25) (N := some 99) (v := ?_) (a' := ?_) #[true, true, true, true, true, true, true, true, true, true, true, true, true, true, true, true, true, true, true, true, true, true, true, true, true, true, false] rfl rfl (by kernel_rfl) (fun _ _ _ h => h) (Or.inl ⟨by rfl, ?_⟩) ?_ ?_
  rotate_left
  · intro w'
    go_simp
    with_reducible rfl
  rotate_left
  · simp only [Act.put, List.setIfInBounds_toArray, List.set_cons_zero, List.set_cons_succ, i64_w, i32_w]
    rfl
  refine pure_ (i := 26) (N := some 2) (v := ?_) (a' := ?_) #[true, true, true, true, true, true, true, true, true, true, true, true, true, true, true, true, true, true, true, true, true, true, true, true, true, true, true] rfl rfl (by kernel_rfl) (fun _ _ _ h => h) (Or.inl ⟨by rfl, ?_⟩) ?_ ?_
  rotate_left
  · intro w'
    go_simp
    with_reducible rfl
  rotate_left
  · simp only [Act.put, List.setIfInBounds_toArray, List.set_cons_zero, List.set_cons_succ, i64_w, i32_w]
    rfl
  refine done_ (by kernel_rfl) ?_
  go_wp2_with fail
  go_ret
  exact ⟨rfl, hHeld.1⟩


/-- THE ONE PURE STATEMENT of damperlaw2_SpecTargets: yours. -/
def damperlaw2_SpecTargets.Pure : Prop := ∀ (a0 : Int), ((Lit.int .i64 a0).wf = true) → ∃ k, damperlaw2_SpecTargets.f k a0 = some true
theorem damperlaw2_SpecTargets.walk (P : damperlaw2_SpecTargets.Pure) (a0 : Int) (w : World) (hLd_ : LaidW w) (w0 : (Lit.int .i64 a0).wf = true)  :
    Calls Tryd.prog 7 #[.int .i64 a0] w fun e w' => e = .returned (.bool true) ∧ Below w.heap.size w w' := by
  obtain ⟨k, h⟩ := P a0 w0
  refine (damperlaw2_SpecTargets.calls k a0 true w ⟨hLd_⟩ ⟨rfl⟩ h).mono ?_
  rintro e w' ⟨rfl, hd⟩
  exact ⟨rfl, hd⟩

end Go.Proofs.YthdpnbfjpbiieaaDoor.Ma
