/- Plain facts of chapter 10's numbers: what 'within', 'Need', 'Decide' and 'Config' come to, as whole numbers. Conditions: each lemma names its bounds. -/
import Derived.Test.YtlikdmeickbigaaMax6
import Derived.Test.YtlikdmeickbigaaMax13
import Derived.Test.YtlikdmeickbigaaMax11
import Derived.Test.YtlikdmeickbigaaMax8
import Derived.Test.YtlikdmeickbigaaMax7
import Derived.OpenShut
namespace Go.Proofs.Ytlikdmeickbigaa.Plain
open Go.RowKit Go.Proofs.Ytlikdmeickbigaa.Ma Go.Proofs.YtlikdmeickbigaaW.PrintWords Go.Proofs.YtlikdmeickbigaaW.PrintLast Go.Proofs.YtlikdmeickbigaaW.PrintMore

theorem wrap_id {a : Int} (h0 : -9223372036854775808 ≤ a) (h1 : a ≤ 9223372036854775807) : wrap64 a = a := by unfold wrap64; omega

theorem tmod_cases (a n : Int) (hn : 0 < n) : (if Int.tmod a n < 0 then Int.tmod a n + n else Int.tmod a n) = a % n := by
  have h := Int.tmod_eq_emod (a := a) (b := n)
  have h1 := Int.emod_nonneg a (by omega : n ≠ 0)
  have h2 := Int.emod_lt_of_pos a hn
  have h3 : (n.natAbs : Int) = n := by omega
  by_cases hc : 0 ≤ a ∨ n ∣ a
  · rw [if_pos hc] at h
    rw [h, if_neg (by omega)]
    omega
  · rw [if_neg hc] at h
    have h4 : a % n ≠ 0 := fun e => hc (.inr (Int.dvd_of_emod_eq_zero e))
    rw [h, if_pos (by omega)]
    omega

theorem tmod_bound (a n : Int) (hn : 0 < n) : -n ≤ Int.tmod a n ∧ Int.tmod a n < n := by
  have h := tmod_cases a n hn
  have h1 := Int.emod_nonneg a (by omega : n ≠ 0)
  have h2 := Int.emod_lt_of_pos a hn
  split at h <;> omega

theorem within10 (a n : Int) (hn : 0 < n) (hb : n ≤ 4611686018427387904) : damperlaw10_within.f a n = some (a % n) := by
  have h := tmod_cases a n hn
  have h1 := tmod_bound a n hn
  unfold damperlaw10_within.f
  rw [if_neg (by omega)]
  split
  · rename_i hc
    rw [if_pos hc] at h
    rw [wrap_id (by omega) (by omega), h]
  · rename_i hc
    rw [if_neg hc] at h
    rw [h]

theorem within2 (a n : Int) (hn : 0 < n) (hb : n ≤ 4611686018427387904) : damperlaw2_within.f a n = some (a % n) := within10 a n hn hb

theorem mod_range (a n : Int) (hn : 0 < n) : 0 ≤ a % n ∧ a % n < n := ⟨Int.emod_nonneg a (by omega), Int.emod_lt_of_pos a hn⟩

/-- What a sum needs. -/
def need (s c q : Int) : Int := if c ≤ 0 then 0 else (s + c * q - 1) / (c * q)

theorem mul_range {c q : Int} (hc : 0 < c) (hc2 : c ≤ 10000000) (hq : 1 ≤ q) (hq2 : q ≤ 8) : 0 < c * q ∧ c * q ≤ 80000000 := by
  have h1 : c * 1 ≤ c * q := Int.mul_le_mul_of_nonneg_left hq (by omega)
  have h2 : c * q ≤ c * 8 := Int.mul_le_mul_of_nonneg_left hq2 (by omega)
  omega

theorem need_some (s c q : Int) (hs : 0 ≤ s) (hs2 : s ≤ 1000000000) (hc : 0 ≤ c) (hc2 : c ≤ 10000000) (hq : 1 ≤ q) (hq2 : q ≤ 8) : scale_Need.f s c q = some (need s c q) := by
  unfold scale_Need.f need
  by_cases h : c ≤ 0
  · rw [if_pos h, if_pos h]
  · have hm := mul_range (by omega : 0 < c) hc2 hq hq2
    rw [if_neg h, if_neg h, if_neg (by omega : ¬ q ≤ 0), wrap_id (a := c * q) (by omega) (by omega), if_neg (by omega), wrap_id (a := s + c * q) (by omega) (by omega), wrap_id (a := s + c * q - 1) (by omega) (by omega)]
    have e : Int.tdiv (s + c * q - 1) (c * q) = (s + c * q - 1) / (c * q) := Int.tdiv_eq_ediv_of_nonneg (by omega)
    rw [e]
    have h1 : 0 ≤ (s + c * q - 1) / (c * q) := Int.ediv_nonneg (by omega) (by omega)
    have h2 : (s + c * q - 1) / (c * q) ≤ s + c * q - 1 := Int.ediv_le_self _ (by omega)
    rw [wrap_id (by omega) (by omega)]

theorem need_ref (s c q : Int) (hs : 0 ≤ s) (hs2 : s ≤ 1000000000) (hc : 0 ≤ c) (hc2 : c ≤ 10000000) (hq : 1 ≤ q) (hq2 : q ≤ 8) : damperref10_Need.f s c q = some (need s c q) := by
  unfold damperref10_Need.f need
  by_cases h : c ≤ 0
  · rw [if_pos (by omega), if_pos h]
  · have hm := mul_range (by omega : 0 < c) hc2 hq hq2
    rw [if_neg (by omega), if_neg h, wrap_id (a := c * q) (by omega) (by omega), if_neg (by omega), wrap_id (a := s + c * q) (by omega) (by omega), wrap_id (a := s + c * q - 1) (by omega) (by omega)]
    have e : Int.tdiv (s + c * q - 1) (c * q) = (s + c * q - 1) / (c * q) := Int.tdiv_eq_ediv_of_nonneg (by omega)
    rw [e]
    have h1 : 0 ≤ (s + c * q - 1) / (c * q) := Int.ediv_nonneg (by omega) (by omega)
    have h2 : (s + c * q - 1) / (c * q) ≤ s + c * q - 1 := Int.ediv_le_self _ (by omega)
    rw [wrap_id (by omega) (by omega)]

theorem need_range (s c q : Int) (hs : 0 ≤ s) (hs2 : s ≤ 1000000000) (hc : 0 ≤ c) (hc2 : c ≤ 10000000) (hq : 1 ≤ q) (hq2 : q ≤ 8) : 0 ≤ need s c q ∧ need s c q ≤ 1080000000 := by
  unfold need
  split
  · omega
  · have hm := mul_range (by omega : 0 < c) hc2 hq hq2
    have h1 : 0 ≤ (s + c * q - 1) / (c * q) := Int.ediv_nonneg (by omega) (by omega)
    have h2 : (s + c * q - 1) / (c * q) ≤ s + c * q - 1 := Int.ediv_le_self _ (by omega)
    omega

theorem need_zero (c q : Int) (hc2 : c ≤ 10000000) (hq : 1 ≤ q) (hq2 : q ≤ 8) : need 0 c q = 0 := by
  unfold need
  split
  · rfl
  · have hm := mul_range (by omega : 0 < c) hc2 hq hq2
    exact Int.ediv_eq_zero_of_lt (by omega) (by omega)

theorem need_mono (s t c q : Int) (h : s ≤ t) (hq : 1 ≤ q) : need s c q ≤ need t c q := by
  unfold need
  split
  · exact Int.le_refl _
  · have : 0 < c * q := Int.mul_pos (by omega) (by omega)
    exact Int.ediv_le_ediv this (by omega)

/-- How long, and how many: chapter 10's Decide on whole numbers. -/
def panicOf (left b m : Int) : Int := if b ≥ 2 * m then 6 else mx (left - 1) 0
def wantOf (want l a b : Int) : Int := if l > 0 then mx (mx want a) b else a
def oneOf (w want busy idle grace : Int) : Int := if w = 0 ∧ (busy > 0 ∨ (want > 0 ∧ idle < grace)) then 1 else w
def lastOf (w ready m least most : Int) : Int := mn (mx (mx (mn w (4 * m)) (ready / 2)) least) most
def decW (want left least most grace ready busy a b idle : Int) : Int := lastOf (oneOf (wantOf want (panicOf left b (mx 1 ready)) a b) want busy idle grace) ready (mx 1 ready) least most

theorem half {r : Int} (h0 : 0 ≤ r) (h1 : r ≤ 1000000) : wrap64 (Int.tdiv r 2) = r / 2 := by
  rw [Int.tdiv_eq_ediv_of_nonneg h0, wrap_id (by omega) (by omega)]

theorem mx_range {a b : Int} (l u : Int) (h : l ≤ a ∧ a ≤ u) (h2 : l ≤ b ∧ b ≤ u) : l ≤ mx a b ∧ mx a b ≤ u := by unfold mx; split <;> omega

theorem bounds_some (nm : ByteArray) (i c lo hi g ready m : Int) (h0 : 0 ≤ ready) (h1 : ready ≤ 1000000) (hm : 0 ≤ m) (hm2 : m ≤ 1000000) :
    scale_bounds.f nm i c lo hi g ready m = some (4 * m, ready / 2, lo, hi) := by
  unfold scale_bounds.f
  rw [half h0 h1, wrap_id (by omega) (by omega)]

theorem j2_some (k : Nat) (ready m : Int) (nm : ByteArray) (i c lo hi g w l : Int) (h0 : 0 ≤ ready) (h1 : ready ≤ 1000000) (hm : 0 ≤ m) (hm2 : m ≤ 1000000) :
    scale_Decide.j2 (k + 1) ready m nm i c lo hi g w l = some (lastOf w ready m lo hi, l) := by
  simp only [scale_Decide.j2]
  rw [bounds_some nm i c lo hi g ready m h0 h1 hm hm2]
  rfl

theorem j1_some (k : Nat) (ready m : Int) (f : Bool) (nm : ByteArray) (i c lo hi g w l : Int) (h0 : 0 ≤ ready) (h1 : ready ≤ 1000000) (hm : 0 ≤ m) (hm2 : m ≤ 1000000) :
    scale_Decide.j1 (k + 2) ready m f nm i c lo hi g w l = some (lastOf (if f = true then 1 else w) ready m lo hi, l) := by
  simp only [scale_Decide.j1]
  rw [j2_some k ready m nm i c lo hi g 1 l h0 h1 hm hm2, j2_some k ready m nm i c lo hi g w l h0 h1 hm hm2]
  split <;> rfl

theorem j0_some (k : Nat) (ready busy idle m want left : Int) (nm : ByteArray) (i c lo hi g w l : Int) (h0 : 0 ≤ ready) (h1 : ready ≤ 1000000) (hm : 0 ≤ m) (hm2 : m ≤ 1000000) :
    scale_Decide.j0 (k + 3) ready busy idle m want left nm i c lo hi g w l = some (lastOf (oneOf w want busy idle g) ready m lo hi, l) := by
  simp only [scale_Decide.j0]
  simp only [j1_some k ready m _ nm i c lo hi g w l h0 h1 hm hm2]
  unfold oneOf
  by_cases c1 : w = 0
  · by_cases c2 : busy > 0
    · simp [c1, c2]
    · by_cases c3 : want > 0
      · simp [c1, c2, c3]
      · simp [c1, c2, c3]
  · simp [c1]

theorem decide_some (k : Nat) (want left : Int) (nm : ByteArray) (i c lo hi g ready busy st sts sh shs idle : Int) (hl : 0 ≤ left ∧ left ≤ 6) (hc : 1 ≤ c ∧ c ≤ 8) (hr : 0 ≤ ready ∧ ready ≤ 1000000)
    (h1 : 0 ≤ st ∧ st ≤ 1000000000) (h2 : 0 ≤ sts ∧ sts ≤ 10000000) (h3 : 0 ≤ sh ∧ sh ≤ 1000000000) (h4 : 0 ≤ shs ∧ shs ≤ 10000000) :
    scale_Decide.f (k + 3) want left nm i c lo hi g ready busy st sts sh shs idle =
      some (decW want left lo hi g ready busy (need st sts c) (need sh shs c) idle, panicOf left (need sh shs c) (mx 1 ready)) := by
  have hm := mx_range (a := 1) (b := ready) 0 1000000 ⟨by omega, by omega⟩ hr
  simp only [scale_Decide.f]
  rw [need_some st sts c h1.1 h1.2 h2.1 h2.2 hc.1 hc.2, need_some sh shs c h3.1 h3.2 h4.1 h4.2 hc.1 hc.2]
  simp only [Option.bind_some]
  have e : scale_State_hurried.f want left (need sh shs c) (mx 1 ready) = some (panicOf left (need sh shs c) (mx 1 ready)) := by
    unfold scale_State_hurried.f panicOf
    rw [wrap_id (a := 2 * mx 1 ready) (by omega) (by omega), wrap_id (a := left - 1) (by omega) (by omega)]
    split <;> rfl
  rw [e]
  simp only [Option.bind_some, scale_State_most.f, j0_some k ready busy idle (mx 1 ready) want left nm i c lo hi g _ _ hr.1 hr.2 hm.1 hm.2]
  unfold decW wantOf
  split <;> rfl

/-- A configuration that may be. -/
structure Fine (c lo hi g : Int) : Prop where
  c1 : 1 ≤ c
  c8 : c ≤ 8
  lo0 : 0 ≤ lo
  lohi : lo ≤ hi
  hi1 : 1 ≤ hi
  hi10 : hi ≤ 10
  g0 : 0 ≤ g
  g30 : g ≤ 30

theorem config_some (nm : ByteArray) (i c lo hi g : Int) : ∃ nm' i' c' lo' hi' g', damperlaw2_Config.f nm i c lo hi g 0 = some (nm', i', c', lo', hi', g') ∧ Fine c' lo' hi' g' := by
  have h1 := mod_range c 8 (by omega)
  have h2 := mod_range hi 10 (by omega)
  have h3 := mod_range lo (1 + hi % 10 + 1) (by omega)
  have h4 := mod_range g 31 (by omega)
  refine ⟨(⟨#[119, 101, 98]⟩ : ByteArray), i % 256, 1 + c % 8, lo % (1 + hi % 10 + 1), 1 + hi % 10, g % 31, ?_, ⟨?_, ?_, ?_, ?_, ?_, ?_, ?_, ?_⟩⟩
  · unfold damperlaw2_Config.f
    rw [within2 0 3 (by omega) (by omega)]
    simp only [Option.bind_some]
    rw [if_pos (by decide), if_pos (by decide), within2 i 256 (by omega) (by omega), within2 c 8 (by omega) (by omega), within2 hi 10 (by omega) (by omega)]
    simp only [Option.bind_some]
    rw [wrap_id (a := 1 + hi % 10) (by omega) (by omega), wrap_id (a := 1 + hi % 10 + 1) (by omega) (by omega), within2 lo _ (by omega) (by omega), within2 g 31 (by omega) (by omega)]
    simp only [Option.bind_some]
    rw [wrap_id (a := 1 + c % 8) (by omega) (by omega)]
    rfl
  all_goals omega

/-- The chapter's example holds. -/
theorem known_some (k : Nat) : damperlaw10_known.f (k + 3) = some true := by
  unfold damperlaw10_known.f
  rw [decide_some k 0 0 _ 0 1 0 5 0 0 0 6 6 0 1 0 (by omega) (by omega) (by omega) (by omega) (by omega) (by omega) (by omega)]
  rw [need_some 9 2 2 (by omega) (by omega) (by omega) (by omega) (by omega) (by omega)]
  decide

end Go.Proofs.Ytlikdmeickbigaa.Plain
