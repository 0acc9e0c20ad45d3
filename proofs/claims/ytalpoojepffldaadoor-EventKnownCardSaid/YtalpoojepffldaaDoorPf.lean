-- Written by a program of this session (wip/tools/pack.py) out of its printed parts. Not trusted: Lean checks it.
import Derived.Test.YtalpoojepffldaaDoorRdb
import Derived.Test.YtalpoojepffldaaDoorRdc
import Derived.Test.YtalpoojepffldaaDoorRdd
import Derived.Test.YtalpoojepffldaaDoorRde
import Derived.Test.YtalpoojepffldaaDoorRdf
import Derived.Test.YtalpoojepffldaaDoorMax0
import Derived.Test.YtalpoojepffldaaDoorAs
import Derived.Test.YtalpoojepffldaaDoorPa
import Derived.Test.YtalpoojepffldaaDoorPd
namespace Go.Proofs.YtalpoojepffldaaDoor.Ma
open Go.RowKit Go.Proofs.YtalpoojepffldaaDoorW.PrintWords Go.Proofs.YtalpoojepffldaaDoorW.PrintLast Go.Proofs.YtalpoojepffldaaDoorW.PrintMore
attribute [local go_sem] max2_int min2_int max_two min_two max_three min_three max_four min_four   -- for this text's walks alone
set_option linter.unusedVariables false
set_option linter.unusedSimpArgs false
attribute [local go_sem high] eqA23

section
/-! ### event_Parse: function 20 -/
def rIf {α : Type} (b : Bool) (z : α) (f : RS → α × RS) (s : RS) : α × RS := if b = true then f s else (z, s)
def rCfg (s : RS) : (ByteArray × Int × Int × Int × Int × Int) × RS :=
  let a := rText s
  let b := rNum 1 a.2
  let c := rNum 1 b.2
  let d := rNum 1 c.2
  let e := rNum 1 d.2
  let f := rNum 1 e.2
  ((a.1, b.1, c.1, d.1, e.1, f.1), f.2)
def rRou (s : RS) : (ByteArray × ByteArray × List S39 × Int) × RS :=
  let a := rText s
  let b := rText a.2
  let c := rNum 1 b.2
  let d := rNum 1 c.2
  let t := rTgts d.1.toNat d.2 []
  ((a.1, b.1, t.1, c.1), t.2)
def isBys (l : List Int) : Bool := l.all (fun y => decide (0 ≤ y) && decide (y ≤ 255))
theorem isBys_bys {l : List Int} (h : isBys l = true) : Bys l := by
  intro y hy; have := List.all_eq_true.1 h y hy; simp at this; exact this
/-- What is read behind the kind. -/
structure PV where
  n : Int
  nm : ByteArray
  tg : ByteArray
  dr : Int
  c : ByteArray × Int × Int × Int × Int × Int
  r : ByteArray × ByteArray × List S39 × Int
  s : RS
def rFields (f1 f2 f3 f4 f5 f6 : Bool) (s : RS) : PV :=
  let a := rIf f1 0 (rNum 4) s
  let b := rIf f2 ⟨#[]⟩ rText a.2
  let c := rIf f3 ⟨#[]⟩ rText b.2
  let d := rIf f4 0 (rNum 4) c.2
  let e := rIf f5 (⟨#[]⟩, 0, 0, 0, 0, 0) rCfg d.2
  let g := rIf f6 (⟨#[]⟩, ⟨#[]⟩, [], 0) rRou e.2
  ⟨a.1, b.1, c.1, d.1, e.1, g.1, g.2⟩
def pEnd (k : Nat) (kd : Int) (v : PV) : Option (Int × ByteArray × ByteArray × Int × Int × ByteArray × Int × Int × Int × Int × Int × ByteArray × ByteArray × List S39 × Int × Int) :=
  if v.s.2 = true then some (0, ⟨#[]⟩, ⟨#[]⟩, 0, 0, ⟨#[]⟩, 0, 0, 0, 0, 0, ⟨#[]⟩, ⟨#[]⟩, [], 0, 10) else if 0 < v.s.1.length then some (0, ⟨#[]⟩, ⟨#[]⟩, 0, 0, ⟨#[]⟩, 0, 0, 0, 0, 0, ⟨#[]⟩, ⟨#[]⟩, [], 0, 11)
  else (event_Check.f k kd v.nm v.tg v.n v.dr v.c.1 v.c.2.1 v.c.2.2.1 v.c.2.2.2.1 v.c.2.2.2.2.1 v.c.2.2.2.2.2 v.r.1 v.r.2.1 v.r.2.2.1 v.r.2.2.2).bind fun no =>
    if no = 0 then some (kd, v.nm, v.tg, v.n, v.dr, v.c.1, v.c.2.1, v.c.2.2.1, v.c.2.2.2.1, v.c.2.2.2.2.1, v.c.2.2.2.2.2, v.r.1, v.r.2.1, v.r.2.2.1, v.r.2.2.2, 0) else some (0, ⟨#[]⟩, ⟨#[]⟩, 0, 0, ⟨#[]⟩, 0, 0, 0, 0, 0, ⟨#[]⟩, ⟨#[]⟩, [], 0, no)
def event_Parse.f (k : Nat) (l0 : List Int) : Option (Int × ByteArray × ByteArray × Int × Int × ByteArray × Int × Int × Int × Int × Int × ByteArray × ByteArray × List S39 × Int × Int) :=
  if isBys l0 = true then (event_shape.f k (rNum 1 (l0, false)).1).bind fun h =>
    if (rNum 1 (l0, false)).2.2 = true then some (0, ⟨#[]⟩, ⟨#[]⟩, 0, 0, ⟨#[]⟩, 0, 0, 0, 0, 0, ⟨#[]⟩, ⟨#[]⟩, [], 0, 10) else if h.2.2.2.2.2.2 = false then some (0, ⟨#[]⟩, ⟨#[]⟩, 0, 0, ⟨#[]⟩, 0, 0, 0, 0, 0, ⟨#[]⟩, ⟨#[]⟩, [], 0, 12)
    else pEnd k (rNum 1 (l0, false)).1 (rFields h.1 h.2.1 h.2.2.1 h.2.2.2.1 h.2.2.2.2.1 h.2.2.2.2.2.1 (rNum 1 (l0, false)).2)
  else none
/-- What a call of Parse comes to. -/
def PostP (w : World) (r : Int × ByteArray × ByteArray × Int × Int × ByteArray × Int × Int × Int × Int × Int × ByteArray × ByteArray × List S39 × Int × Int) (e : Ending) (W' : World) : Prop := ∃ a0 : Value, e = .returned (.tuple #[.agg #[.int .i64 r.1, .string r.2.1, .string r.2.2.1, .int .i64 r.2.2.2.1, .int .i64 r.2.2.2.2.1, .string r.2.2.2.2.2.1, .int .i64 r.2.2.2.2.2.2.1, .int .i64 r.2.2.2.2.2.2.2.1, .int .i64 r.2.2.2.2.2.2.2.2.1, .int .i64 r.2.2.2.2.2.2.2.2.2.1, .int .i64 r.2.2.2.2.2.2.2.2.2.2.1, .string r.2.2.2.2.2.2.2.2.2.2.2.1, .string r.2.2.2.2.2.2.2.2.2.2.2.2.1, a0, .int .i64 r.2.2.2.2.2.2.2.2.2.2.2.2.2.2.1], .int .i64 r.2.2.2.2.2.2.2.2.2.2.2.2.2.2.2]) ∧ Kd.R k39 39 W' w.heap.size (fun _ => True) a0 r.2.2.2.2.2.2.2.2.2.2.2.2.2.1 ∧ Below w.heap.size w W'
theorem endQ {k : Nat} {kd : Int} {v : PV} {r : Int × ByteArray × ByteArray × Int × Int × ByteArray × Int × Int × Int × Int × Int × ByteArray × ByteArray × List S39 × Int × Int} (w : World) (h : pEnd k kd v = some r) : ∃ no : Int,
    (v.s.2 = true → ∀ W', Below w.heap.size w W' → PostP w r (.returned (.tuple #[.agg (eV 0 ⟨#[]⟩ ⟨#[]⟩ 0 0 ⟨#[]⟩ 0 0 0 0 0 ⟨#[]⟩ ⟨#[]⟩ (.slice none 0 0) 0), .int .i64 10])) W') ∧
    (v.s.2 = false → 0 < v.s.1.length → ∀ W', Below w.heap.size w W' → PostP w r (.returned (.tuple #[.agg (eV 0 ⟨#[]⟩ ⟨#[]⟩ 0 0 ⟨#[]⟩ 0 0 0 0 0 ⟨#[]⟩ ⟨#[]⟩ (.slice none 0 0) 0), .int .i64 11])) W') ∧
    (v.s.2 = false → v.s.1.length = 0 → event_Check.f k kd v.nm v.tg v.n v.dr v.c.1 v.c.2.1 v.c.2.2.1 v.c.2.2.2.1 v.c.2.2.2.2.1 v.c.2.2.2.2.2 v.r.1 v.r.2.1 v.r.2.2.1 v.r.2.2.2 = some no) ∧
    (no ≠ 0 → ∀ W', Below w.heap.size w W' → PostP w r (.returned (.tuple #[.agg (eV 0 ⟨#[]⟩ ⟨#[]⟩ 0 0 ⟨#[]⟩ 0 0 0 0 0 ⟨#[]⟩ ⟨#[]⟩ (.slice none 0 0) 0), .int .i64 no])) W') ∧
    (no = 0 → ∀ (W' : World) (u : Value), Kd.R k39 39 W' w.heap.size (fun _ => True) u v.r.2.2.1 → Below w.heap.size w W' → PostP w r (.returned (.tuple #[.agg (eV kd v.nm v.tg v.n v.dr v.c.1 v.c.2.1 v.c.2.2.1 v.c.2.2.2.1 v.c.2.2.2.2.1 v.c.2.2.2.2.2 v.r.1 v.r.2.1 u v.r.2.2.2), .int .i64 0])) W') := by
  unfold pEnd at h; by_cases h1 : v.s.2 = true
  · rw [if_pos h1] at h; obtain rfl := Option.some.inj h; exact ⟨10, fun _ W' hb => ⟨_, rfl, Kd.R_nil _ _ _ _ _, hb⟩, fun e => by rw [h1] at e; (cases e), fun e => by rw [h1] at e; (cases e), fun _ W' hb => ⟨_, rfl, Kd.R_nil _ _ _ _ _, hb⟩, fun e => by cases e⟩
  rw [if_neg h1] at h; by_cases h2 : 0 < v.s.1.length
  · rw [if_pos h2] at h; obtain rfl := Option.some.inj h; exact ⟨11, fun e => absurd e h1, fun _ _ W' hb => ⟨_, rfl, Kd.R_nil _ _ _ _ _, hb⟩, fun _ e => by omega, fun _ W' hb => ⟨_, rfl, Kd.R_nil _ _ _ _ _, hb⟩, fun e => by cases e⟩
  rw [if_neg h2] at h; obtain ⟨no, hn, h⟩ := Option.bind_eq_some_iff.1 h; by_cases h3 : no = 0
  · rw [if_pos h3] at h; obtain rfl := Option.some.inj h; exact ⟨no, fun e => absurd e h1, fun _ e => absurd e h2, fun _ _ => hn, fun e => absurd h3 e, fun _ W' u hu hb => ⟨u, rfl, hu, hb⟩⟩
  · rw [if_neg h3] at h; obtain rfl := Option.some.inj h; exact ⟨no, fun e => absurd e h1, fun _ e => absurd e h2, fun _ _ => hn, fun _ W' hb => ⟨_, rfl, Kd.R_nil _ _ _ _ _, hb⟩, fun e => absurd e h3⟩
theorem shape_some {k : Nat} {kd : Int} {f1 f2 f3 f4 f5 f6 : Bool} (h : event_shape.f k kd = some (f1, f2, f3, f4, f5, f6, true)) :
    (f1, f2, f3, f4, f5, f6) = (true, false, false, false, true, false) ∨ (f1, f2, f3, f4, f5, f6) = (true, false, false, false, false, true) ∨ (f1, f2, f3, f4, f5, f6) = (true, true, false, true, false, false) ∨ (f1, f2, f3, f4, f5, f6) = (true, true, true, true, false, false) ∨ (f1, f2, f3, f4, f5, f6) = (true, false, false, false, false, false) ∨ (f1, f2, f3, f4, f5, f6) = (false, false, false, false, false, false) ∨ (f1, f2, f3, f4, f5, f6) = (false, true, false, false, false, false) := by
  have j1 : ∀ (k : Nat) (x : Bool), event_shape.j1 k x = some (f1, f2, f3, f4, f5, f6, true) → (f1, f2, f3, f4, f5, f6) = (false, true, false, false, false, false) := by
    intro k x h
    cases k with
    | zero => simp [event_shape.j1] at h
    | succ k => cases x <;> simp [event_shape.j1] at h <;> simp [h]
  have j0 : ∀ (k : Nat) (y : Int) (x : Bool), event_shape.j0 k y x = some (f1, f2, f3, f4, f5, f6, true) → (f1, f2, f3, f4, f5, f6) = (true, false, false, false, false, false) ∨ (f1, f2, f3, f4, f5, f6) = (false, false, false, false, false, false) ∨ (f1, f2, f3, f4, f5, f6) = (false, true, false, false, false, false) := by
    intro k y x h
    cases k with
    | zero => simp [event_shape.j0] at h
    | succ k =>
      rw [event_shape.j0] at h
      split at h
      · left; simp at h; simp [h]
      split at h
      · right; left; simp at h; simp [h]
      right; right
      split at h
      · exact j1 _ _ h
      split at h
      · exact j1 _ _ h
      split at h <;> exact j1 _ _ h
  unfold event_shape.f at h
  split at h
  · left; simp at h; simp [h]
  split at h
  · right; left; simp at h; simp [h]
  split at h
  · right; right; left; simp at h; simp [h]
  split at h
  · right; right; right; left; simp at h; simp [h]
  have key : (f1, f2, f3, f4, f5, f6) = (true, false, false, false, false, false) ∨ (f1, f2, f3, f4, f5, f6) = (false, false, false, false, false, false) ∨ (f1, f2, f3, f4, f5, f6) = (false, true, false, false, false, false) := by
    split at h
    · exact j0 _ _ _ h
    split at h
    · exact j0 _ _ _ h
    split at h <;> exact j0 _ _ _ h
  right; right; right; right; exact key
theorem rNum1_nat {s : RS} (h : Bys s.1) : rNum 1 s = (((rNum 1 s).1.toNat : Int), (rNum 1 s).2) ∧ (rNum 1 s).1.toNat ≤ 255 := by
  have hb := byteN_eq h s.2; have e : (rNum 1 s).1 = (byteN s.1 s.2 : Int) := hb.1; refine ⟨Prod.ext (by rw [e]; simp) rfl, by rw [e]; simpa using hb.2⟩
set_option maxHeartbeats 8000000 in
set_option maxRecDepth 100000 in
theorem event_Parse.calls (k : Nat) (A0 : Option Addr) (c0 : Nat) (l0 : List Int) (r1 : Int) (r2 : ByteArray) (r3 : ByteArray) (r4 : Int) (r5 : Int) (r6 : ByteArray) (r7 : Int) (r8 : Int) (r9 : Int) (a2 : Int) (a3 : Int) (a4 : ByteArray) (a5 : ByteArray) (a6 : List S39) (a7 : Int) (a8 : Int) (w : World) (hLd_ : Aside0 (LaidW w)) (a0 : Kd.C (Kd.int .u8) w A0 l0.length l0) (a1 : l0.length ≤ c0) (h : event_Parse.f k l0 = some (r1, r2, r3, r4, r5, r6, r7, r8, r9, a2, a3, a4, a5, a6, a7, a8)) :
    Calls Tryd.prog 20 #[.slice A0 l0.length c0] w fun e w' => ∃ a9 : Value, e = .returned (.tuple #[.agg (eV r1 r2 r3 r4 r5 r6 r7 r8 r9 a2 a3 a4 a5 a9 a7), .int .i64 a8]) ∧ Kd.R k39 39 w' w.heap.size (fun _ => True) a9 a6 ∧ Below w.heap.size w w' := by
  show Calls Tryd.prog 20 #[.slice A0 l0.length c0] w (PostP w (r1, r2, r3, r4, r5, r6, r7, r8, r9, a2, a3, a4, a5, a6, a7, a8)); generalize (r1, r2, r3, r4, r5, r6, r7, r8, r9, a2, a3, a4, a5, a6, a7, a8) = r at h ⊢; unfold event_Parse.f at h
  split at h
  case isFalse => cases h
  rename_i hib
  have hby := isBys_bys hib; obtain ⟨⟨f1, f2, f3, f4, f5, f6, f7⟩, hsh, h⟩ := Option.bind_eq_some_iff.1 h; obtain ⟨kd, s1, h1⟩ : ∃ kd s1, rNum 1 (l0, false) = (kd, s1) := ⟨_, _, rfl⟩; rw [h1] at hsh h; simp only at hsh h; by_cases hs : s1.2 = true
  · rw [if_pos hs] at h; obtain rfl := Option.some.inj h; exact parse_cut0 k A0 c0 l0 w a0 a1 kd s1 h1 hs f7 f1 f2 f3 f4 f5 f6 hsh
  rw [if_neg hs] at h; (replace hs : s1.2 = false := by simpa using hs); by_cases h7 : f7 = false
  · rw [if_pos h7] at h; obtain rfl := Option.some.inj h; subst h7; exact parse_kind0 k A0 c0 l0 w a0 a1 kd s1 h1 hs f1 f2 f3 f4 f5 f6 hsh
  rw [if_neg h7] at h; (replace h7 : f7 = true := by simpa using h7); subst h7; have b0 := rNum_bys h1 hby; obtain ⟨no, q1, q2, q3, q4, q5⟩ := endQ w h; rcases shape_some hsh with e | e | e | e | e | e | e <;> (simp only [Prod.mk.injEq] at e; obtain ⟨rfl, rfl, rfl, rfl, rfl, rfl⟩ := e)
  · skip
    exact parse_Cfg k A0 c0 l0 w hLd_ a0 a1 hby kd s1 h1 hs hsh (rNum 4 s1).1 (rNum 4 s1).2 rfl (rText (rNum 4 s1).2).1 (rNum 1 (rText (rNum 4 s1).2).2).1 (rNum 1 (rNum 1 (rText (rNum 4 s1).2).2).2).1 (rNum 1 (rNum 1 (rNum 1 (rText (rNum 4 s1).2).2).2).2).1 (rNum 1 (rNum 1 (rNum 1 (rNum 1 (rText (rNum 4 s1).2).2).2).2).2).1 (rNum 1 (rNum 1 (rNum 1 (rNum 1 (rNum 1 (rText (rNum 4 s1).2).2).2).2).2).2).1 (rText (rNum 4 s1).2).2 (rNum 1 (rText (rNum 4 s1).2).2).2 (rNum 1 (rNum 1 (rText (rNum 4 s1).2).2).2).2 (rNum 1 (rNum 1 (rNum 1 (rText (rNum 4 s1).2).2).2).2).2 (rNum 1 (rNum 1 (rNum 1 (rNum 1 (rText (rNum 4 s1).2).2).2).2).2).2 (rNum 1 (rNum 1 (rNum 1 (rNum 1 (rNum 1 (rText (rNum 4 s1).2).2).2).2).2).2).2 rfl rfl rfl rfl rfl rfl (PostP w r) q1 q2 no q3 q4 (fun e W' hb => q5 e W' _ (Kd.R_nil _ _ _ _ _) hb)
  · skip
    have hbn : Bys (rNum 4 s1).2.1 := rNum_bys rfl b0; have hnat := rNum1_nat (s := (rNum 1 (rText (rText (rNum 4 s1).2).2).2).2) (rNum_bys (s := (rText (rText (rNum 4 s1).2).2).2) rfl (rText_bys (s := (rText (rNum 4 s1).2).2) rfl (rText_bys (s := (rNum 4 s1).2) rfl hbn))); exact parse_Rou k A0 c0 l0 w hLd_ a0 a1 hby kd s1 h1 hs hsh (rNum 4 s1).1 (rNum 4 s1).2 rfl (rText (rNum 4 s1).2).1 (rText (rText (rNum 4 s1).2).2).1 (rNum 1 (rText (rText (rNum 4 s1).2).2).2).1 (rNum 1 (rNum 1 (rText (rText (rNum 4 s1).2).2).2).2).1.toNat (rTgts (rNum 1 (rNum 1 (rText (rText (rNum 4 s1).2).2).2).2).1.toNat (rNum 1 (rNum 1 (rText (rText (rNum 4 s1).2).2).2).2).2 []).1 (rText (rNum 4 s1).2).2 (rText (rText (rNum 4 s1).2).2).2 (rNum 1 (rText (rText (rNum 4 s1).2).2).2).2 (rNum 1 (rNum 1 (rText (rText (rNum 4 s1).2).2).2).2).2 (rTgts (rNum 1 (rNum 1 (rText (rText (rNum 4 s1).2).2).2).2).1.toNat (rNum 1 (rNum 1 (rText (rText (rNum 4 s1).2).2).2).2).2 []).2 rfl rfl rfl hnat.1 (by have := hnat.2; omega) rfl (PostP w r) q1 q2 no q3 q4 (fun e W' A2 c2_ hR hb => q5 e W' _ hR hb)
  · skip
    exact parse_Drop k A0 c0 l0 w hLd_ a0 a1 hby kd s1 h1 hs hsh (rNum 4 s1).1 (rNum 4 s1).2 rfl (rText (rNum 4 s1).2).1 (rText (rNum 4 s1).2).2 rfl (rNum 4 (rText (rNum 4 s1).2).2).1 (rNum 4 (rText (rNum 4 s1).2).2).2 rfl (PostP w r) q1 q2 no q3 q4 (fun e W' hb => q5 e W' _ (Kd.R_nil _ _ _ _ _) hb)
  · skip
    exact parse_Arr k A0 c0 l0 w hLd_ a0 a1 hby kd s1 h1 hs hsh (rNum 4 s1).1 (rNum 4 s1).2 rfl (rText (rNum 4 s1).2).1 (rText (rNum 4 s1).2).2 rfl (rText (rText (rNum 4 s1).2).2).1 (rText (rText (rNum 4 s1).2).2).2 rfl (rNum 4 (rText (rText (rNum 4 s1).2).2).2).1 (rNum 4 (rText (rText (rNum 4 s1).2).2).2).2 rfl (PostP w r) q1 q2 no q3 q4 (fun e W' hb => q5 e W' _ (Kd.R_nil _ _ _ _ _) hb)
  · skip
    exact parse_Num k A0 c0 l0 w hLd_ a0 a1 hby kd s1 h1 hs hsh (rNum 4 s1).1 (rNum 4 s1).2 rfl (PostP w r) q1 q2 no q3 q4 (fun e W' hb => q5 e W' _ (Kd.R_nil _ _ _ _ _) hb)
  · skip
    exact parse_Tick k A0 c0 l0 w hLd_ a0 a1 hby kd s1 h1 hs hsh  (PostP w r) (fun hm => q2 hs hm) no (fun hm => q3 hs hm) q4 (fun e W' hb => q5 e W' _ (Kd.R_nil _ _ _ _ _) hb)
  · skip
    exact parse_Nam k A0 c0 l0 w hLd_ a0 a1 hby kd s1 h1 hs hsh (rText s1).1 (rText s1).2 rfl (PostP w r) q1 q2 no q3 q4 (fun e W' hb => q5 e W' _ (Kd.R_nil _ _ _ _ _) hb)

-- NOT PRINTED: function 60 (event_pieces)

-- NOT PRINTED: function 61 (slices_Clone_byte_byte_61)
end

section
/-! ### damperlaw3_within: function 17 -/
set_option maxHeartbeats 8000000 in
set_option maxRecDepth 100000 in
theorem damperlaw3_within.same (a0 : Int) (a1 : Int) {r : Int} (hr : wi a0 a1 = r) (c3 : a1 ≠ 0) (w : World) :
    Calls Tryd.prog 17 #[.int .i64 a0, .int .i64 a1] w fun e w' => e = .returned (.int .i64 r) ∧ w' = w := by
  subst hr; have c3b0 : (a1 == 0) = false := beq_eq_false_iff_ne.mpr c3; have c3b1 : (a1 != 0) = true := bne_iff_ne.mpr c3; by_cases c4 : (Int.tmod a0 a1) < 0
  · (have hw : wi a0 a1 = wrap64 (Int.tmod a0 a1 + a1) := by unfold wi; rw [if_pos c4]); rw [hw]; clear hw; have c4b0 : decide ((Int.tmod a0 a1) < 0) = true := decide_eq_true c4; clear c4; go_enter Tryd.func17, Tryd.ntmps17; go_wp2; go_ret; exact ⟨au4, rfl⟩
  · (have hw : wi a0 a1 = Int.tmod a0 a1 := by unfold wi; rw [if_neg c4]); rw [hw]; clear hw; have c4b0 : decide ((Int.tmod a0 a1) < 0) = false := decide_eq_false c4; clear c4; go_enter Tryd.func17, Tryd.ntmps17; go_wp2; go_ret; exact ⟨au4, rfl⟩
theorem damperlaw3_within.keep (a0 : Int) (a1 : Int) {r : Int} (hr : wi a0 a1 = r) (c3 : a1 ≠ 0) (w : World) :
    Calls Tryd.prog 17 #[.int .i64 a0, .int .i64 a1] w fun e w' => e = .returned (.int .i64 r) ∧ w = w' :=
  (damperlaw3_within.same a0 a1 hr c3 w).mono fun _ _ h => ⟨h.1, h.2.symm⟩
end

section
theorem eqA39 (d : Nat) (w : World) (x0 y0 : ByteArray) (x1 y1 : ByteArray) (x2 y2 : Int) :
    (Op.equalIn (d + 2) 39 (.agg #[.string x0, .string x1, .int .i64 x2]) (.agg #[.string y0, .string y1, .int .i64 y2])).run Tryd.prog w = .ok (x0.toList == y0.toList && (x1.toList == y1.toList && (x2 == y2))) w := by
  refine eqA_of Tryd.underlying39 (by kernel_rfl) ?_; refine eqf_cons (by rfl) (by go_simp; rfl) (by go_simp; rfl) (by go_simp) ?_; refine eqf_cons (by rfl) (by go_simp; rfl) (by go_simp; rfl) (by go_simp) ?_; exact eqf_last (by rfl) (by go_simp; rfl) (by go_simp; rfl) (by go_simp)
end
attribute [local go_sem high] eqA39

section
/-! ### damperref2_SameRoute: function 59 -/
mutual
def damperref2_SameRoute.j0 : Nat → Bool → ByteArray → ByteArray → List (S39) → Int → ByteArray → ByteArray → List (S39) → Int → Option (Bool)
  | 0, _, _, _, _, _, _, _, _, _ => none
  | k + 1, a8, a2, a3, a0, a4, a5, a6, a1, a7 => if a8 = true then (some false) else (damperref2_SameRoute.l0 k 0 a2 a3 a0 a4 a5 a6 a1 a7)
def damperref2_SameRoute.l0 : Nat → Int → ByteArray → ByteArray → List (S39) → Int → ByteArray → ByteArray → List (S39) → Int → Option (Bool)
  | 0, _, _, _, _, _, _, _, _, _ => none
  | k + 1, x5, a2, a3, a0, a4, a5, a6, a1, a7 => if x5 < (a0.length : Int) then (if 0 ≤ x5 then (if x5 < (a1.length : Int) then (if (!((((rd_T39 a0 x5).f0).toList) == (((rd_T39 a1 x5).f0).toList)) || (!((((rd_T39 a0 x5).f1).toList) == (((rd_T39 a1 x5).f1).toList)) || (!(((rd_T39 a0 x5).f2) == ((rd_T39 a1 x5).f2))))) = true then (some false) else (damperref2_SameRoute.l0 k (wrap64 (x5 + 1)) a2 a3 a0 a4 a5 a6 a1 a7)) else (none)) else (none)) else (some true)
end
def damperref2_SameRoute.f (k : Nat) (a0 : ByteArray) (a1 : ByteArray) (a2 : List (S39)) (a3 : Int) (a4 : ByteArray) (a5 : ByteArray) (a6 : List (S39)) (a7 : Int) : Option (Bool) := if a0.toList = a4.toList then (if a1.toList = a5.toList then (if a3 = a7 then (damperref2_SameRoute.j0 k ((a2.length : Int) != (a6.length : Int)) a0 a1 a2 a3 a4 a5 a6 a7) else (damperref2_SameRoute.j0 k true a0 a1 a2 a3 a4 a5 a6 a7)) else (damperref2_SameRoute.j0 k true a0 a1 a2 a3 a4 a5 a6 a7)) else (damperref2_SameRoute.j0 k true a0 a1 a2 a3 a4 a5 a6 a7)
set_option maxHeartbeats 8000000 in
set_option maxRecDepth 100000 in
theorem damperref2_SameRoute.calls (k : Nat) (a6 : ByteArray) (a7 : ByteArray) (c4 : Option Addr) (c5 : Nat) (a2 : List (S39)) (a8 : Int) (a9 : ByteArray) (b0 : ByteArray) (c9 : Option Addr) (d0 : Nat) (a3 : List (S39)) (b1 : Int) (r : Bool) (w : World) (f3 : Kd.C k39 w c4 a2.length a2) (f4 : a2.length ≤ c5) (f5 : Kd.C k39 w c9 a3.length a3) (f6 : a3.length ≤ d0) (h : damperref2_SameRoute.f k a6 a7 a2 a8 a9 b0 a3 b1 = some r) :
    Calls Tryd.prog 59 #[.agg #[.string a6, .string a7, .slice c4 a2.length c5, .int .i64 a8], .agg #[.string a9, .string b0, .slice c9 a3.length d0, .int .i64 b1]] w fun e w' => e = .returned (.bool r) ∧ Below w.heap.size w w' := by
  have hu26 := Tryd.underlying26; have hu39 := Tryd.underlying39; have f7 := Aside0.mk f3; have g7 := Aside0.mk f4; clear f3 f4; have f8 := Aside0.mk f5; have g8 := Aside0.mk f6; clear f5 f6; have HB := Aside0.mk (Below.refl w.heap.size w); have H : (if a6.toList = a9.toList then (if a7.toList = b0.toList then (if a8 = b1 then (damperref2_SameRoute.j0 k ((a2.length : Int) != (a3.length : Int)) a6 a7 a2 a8 a9 b0 a3 b1) else (damperref2_SameRoute.j0 k true a6 a7 a2 a8 a9 b0 a3 b1)) else (damperref2_SameRoute.j0 k true a6 a7 a2 a8 a9 b0 a3 b1)) else (damperref2_SameRoute.j0 k true a6 a7 a2 a8 a9 b0 a3 b1)) = some r := h; clear h; have e7 := Aside0.mk H; clear H; go_enter Tryd.func59, Tryd.ntmps59; go_upto_region 1 with (first | ((with_reducible refine gate_dst (N := 2) rfl ?_); (try (refine gate_guard (by rfl) ?_; dsimp only)); refine box_event ?hg (N := 2) ?hd (cs := #[.string a6, .string a7, .slice c4 a2.length c5, .int .i64 a8]) (t := 26) ?hr ?_; (case hd => rfl); (case hg => rfl); (case hr => first | (go_simp; done) | (go_simp; rfl)); intro b2 hg w4 hbox hb; have b3 := Aside0.mk (below_step (bw0 HB) hb); have b4 := Aside0.mk (hbox); have b5 := Aside0.mk ((by rw [hg]; exact (below_size (bw0 HB)) : w.heap.size ≤ b2)); have b6 := Aside0.mk ((by rw [hg]; exact (below_size (bw0 HB)) : w.heap.size ≤ b2)); clear HB; have HB := b3; have a1 := b4; have f9 := b5; have a5 := b6; clear b3 b4 b5 b6; clear hb hbox hg) | ((with_reducible refine gate_dst (N := 3) rfl ?_); (try (refine gate_guard (by rfl) ?_; dsimp only)); refine box_event ?hg (N := 3) ?hd (cs := #[.string a9, .string b0, .slice c9 a3.length d0, .int .i64 b1]) (t := 26) ?hr ?_; (case hd => rfl); (case hg => rfl); (case hr => first | (go_simp; done) | (go_simp; rfl)); intro b7 hg w5 hbox hb; have b3 := Aside0.mk (blk_below (g := b2) (pk a1) hb); have b4 := Aside0.mk (below_step (bw1 HB a5) hb); have b5 := Aside0.mk (hbox); have b6 := Aside0.mk ((by rw [hg]; exact (below_size (bw1 HB a5)) : w.heap.size ≤ b7)); have c1 := Aside0.mk ((by rw [hg]; exact (below_size (bw1 HB a5)) : w.heap.size ≤ b7)); have c2 := Aside0.mk ((ne_lt hg (pk a1) : b2 ≠ b7)); have c3 := Aside0.mk ((ne_gt hg (pk a1) : b7 ≠ b2)); clear a1; clear HB; have a1 := b3; have HB := b4; have a4 := b5; have g0 := b6; have b8 := c1; have b9 := c2; have c0 := c3; clear b3 b4 b5 b6 c1 c2 c3; clear hb hbox hg))
  repeat (go_quiet (first | ((with_reducible refine gate_dst (N := 2) rfl ?_); (try (refine gate_guard (by rfl) ?_; dsimp only)); refine box_event ?hg (N := 2) ?hd (cs := #[.string a6, .string a7, .slice c4 a2.length c5, .int .i64 a8]) (t := 26) ?hr ?_; (case hd => rfl); (case hg => rfl); (case hr => first | (go_simp; done) | (go_simp; rfl)); intro b2 hg w4 hbox hb; have b3 := Aside0.mk (below_step (bw0 HB) hb); have b4 := Aside0.mk (hbox); have b5 := Aside0.mk ((by rw [hg]; exact (below_size (bw0 HB)) : w.heap.size ≤ b2)); have b6 := Aside0.mk ((by rw [hg]; exact (below_size (bw0 HB)) : w.heap.size ≤ b2)); clear HB; have HB := b3; have a1 := b4; have f9 := b5; have a5 := b6; clear b3 b4 b5 b6; clear hb hbox hg) | ((with_reducible refine gate_dst (N := 3) rfl ?_); (try (refine gate_guard (by rfl) ?_; dsimp only)); refine box_event ?hg (N := 3) ?hd (cs := #[.string a9, .string b0, .slice c9 a3.length d0, .int .i64 b1]) (t := 26) ?hr ?_; (case hd => rfl); (case hg => rfl); (case hr => first | (go_simp; done) | (go_simp; rfl)); intro b7 hg w5 hbox hb; have b3 := Aside0.mk (blk_below (g := b2) (pk a1) hb); have b4 := Aside0.mk (below_step (bw1 HB a5) hb); have b5 := Aside0.mk (hbox); have b6 := Aside0.mk ((by rw [hg]; exact (below_size (bw1 HB a5)) : w.heap.size ≤ b7)); have c1 := Aside0.mk ((by rw [hg]; exact (below_size (bw1 HB a5)) : w.heap.size ≤ b7)); have c2 := Aside0.mk ((ne_lt hg (pk a1) : b2 ≠ b7)); have c3 := Aside0.mk ((ne_gt hg (pk a1) : b7 ≠ b2)); clear a1; clear HB; have a1 := b3; have HB := b4; have a4 := b5; have g0 := b6; have b8 := c1; have b9 := c2; have c0 := c3; clear b3 b4 b5 b6 c1 c2 c3; clear hb hbox hg)); go_upto_region 1 with (first | ((with_reducible refine gate_dst (N := 2) rfl ?_); (try (refine gate_guard (by rfl) ?_; dsimp only)); refine box_event ?hg (N := 2) ?hd (cs := #[.string a6, .string a7, .slice c4 a2.length c5, .int .i64 a8]) (t := 26) ?hr ?_; (case hd => rfl); (case hg => rfl); (case hr => first | (go_simp; done) | (go_simp; rfl)); intro b2 hg w4 hbox hb; have b3 := Aside0.mk (below_step (bw0 HB) hb); have b4 := Aside0.mk (hbox); have b5 := Aside0.mk ((by rw [hg]; exact (below_size (bw0 HB)) : w.heap.size ≤ b2)); have b6 := Aside0.mk ((by rw [hg]; exact (below_size (bw0 HB)) : w.heap.size ≤ b2)); clear HB; have HB := b3; have a1 := b4; have f9 := b5; have a5 := b6; clear b3 b4 b5 b6; clear hb hbox hg) | ((with_reducible refine gate_dst (N := 3) rfl ?_); (try (refine gate_guard (by rfl) ?_; dsimp only)); refine box_event ?hg (N := 3) ?hd (cs := #[.string a9, .string b0, .slice c9 a3.length d0, .int .i64 b1]) (t := 26) ?hr ?_; (case hd => rfl); (case hg => rfl); (case hr => first | (go_simp; done) | (go_simp; rfl)); intro b7 hg w5 hbox hb; have b3 := Aside0.mk (blk_below (g := b2) (pk a1) hb); have b4 := Aside0.mk (below_step (bw1 HB a5) hb); have b5 := Aside0.mk (hbox); have b6 := Aside0.mk ((by rw [hg]; exact (below_size (bw1 HB a5)) : w.heap.size ≤ b7)); have c1 := Aside0.mk ((by rw [hg]; exact (below_size (bw1 HB a5)) : w.heap.size ≤ b7)); have c2 := Aside0.mk ((ne_lt hg (pk a1) : b2 ≠ b7)); have c3 := Aside0.mk ((ne_gt hg (pk a1) : b7 ≠ b2)); clear a1; clear HB; have a1 := b3; have HB := b4; have a4 := b5; have g0 := b6; have b8 := c1; have b9 := c2; have c0 := c3; clear b3 b4 b5 b6 c1 c2 c3; clear hb hbox hg)))
  (try simp only [Act.put, List.setIfInBounds_toArray, List.set_cons_zero, List.set_cons_succ])
  go_cut [33] (fun g4 wc => ∃ (kq : Nat) (e4 : Bool), g4 = .bool e4 ∧ Aside0 (damperref2_SameRoute.j0 kq e4 a6 a7 a2 a8 a9 b0 a3 b1 = some r) ∧ Aside0 (kq ≤ k) ∧ Aside0 (wc.heap[b2]? = some (.cells #[.string a6, .string a7, (.slice c4 a2.length c5), .int .i64 a8] 26 (0, 0))) ∧ Aside0 (wc.heap[b7]? = some (.cells #[.string a9, .string b0, (.slice c9 a3.length d0), .int .i64 b1] 26 (0, 0))) ∧ Aside0 (Below w.heap.size w wc))
  case first =>
    have H := e7.out; clear e7; by_cases c6 : a6.toList = a9.toList
    · rw [if_pos c6] at H; have c6b0 : (a6.toList == a9.toList) = true := beq_iff_eq.mpr c6; have c6b1 : (a6.toList != a9.toList) = false := bne_eq_false_iff_eq.mpr c6; clear c6
      (first | rw [c6b0] | (simp only [i64_w, i32_w]; rw [c6b0]) | rw [c6b1] | skip)
      by_cases c7 : a7.toList = b0.toList
      · rw [if_pos c7] at H; have c7b0 : (a7.toList == b0.toList) = true := beq_iff_eq.mpr c7; have c7b1 : (a7.toList != b0.toList) = false := bne_eq_false_iff_eq.mpr c7; clear c7; by_cases c8 : a8 = b1
        · rw [if_pos c8] at H; have c8b0 : (a8 == b1) = true := beq_iff_eq.mpr c8; have c8b1 : (a8 != b1) = false := bne_eq_false_iff_eq.mpr c8; clear c8; have H' := Aside0.mk H; clear H; have hnb9 := b9.out; have hnc9 := c0.out; obtain ⟨g9, h0, h1, h2⟩ := cz4 a1; obtain ⟨h3, h4, h5, h6⟩ := fz4 a1; obtain ⟨h7, h8, h9, i0⟩ := cz4 a4; obtain ⟨i1, i2, i3, i4⟩ := fz4 a4; go_wp2
          repeat (go_quiet (fail); try go_wp2)
          go_meet
          case rel => exact ⟨_, (((a2.length : Int) != (a3.length : Int))), au4, H', ⟨au5⟩, ⟨pq a1⟩, ⟨pq a4⟩, ⟨bw2 HB a5 b8⟩⟩
        · rw [if_neg c8] at H; have c8b0 : (a8 == b1) = false := beq_eq_false_iff_ne.mpr c8; have c8b1 : (a8 != b1) = true := bne_iff_ne.mpr c8; have H' := Aside0.mk H; clear H; have i5 := b9.out; have i6 := c0.out; obtain ⟨i7, i8, i9, j1⟩ := cz4 a1; obtain ⟨j2, j3, j4, j5⟩ := fz4 a1; obtain ⟨j6, j7, j8, j9⟩ := cz4 a4; obtain ⟨k0, k1, k3, k4⟩ := fz4 a4; go_wp2
          repeat (go_quiet (fail); try go_wp2)
          go_meet
          case rel => exact ⟨_, (true), au4, H', ⟨au5⟩, ⟨pq a1⟩, ⟨pq a4⟩, ⟨bw2 HB a5 b8⟩⟩
      · rw [if_neg c7] at H; have c7b0 : (a7.toList == b0.toList) = false := beq_eq_false_iff_ne.mpr c7; have c7b1 : (a7.toList != b0.toList) = true := bne_iff_ne.mpr c7; have H' := Aside0.mk H; clear H; have k5 := b9.out; have k6 := c0.out; obtain ⟨k7, k8, k9, l1⟩ := cz4 a1; obtain ⟨l2, l3, l4, l5⟩ := fz4 a1; obtain ⟨l6, l7, l8, l9⟩ := cz4 a4; obtain ⟨m0, m1, m2, m3⟩ := fz4 a4; go_wp2
        repeat (go_quiet (fail); try go_wp2)
        go_meet
        case rel => exact ⟨_, (true), au4, H', ⟨au5⟩, ⟨pq a1⟩, ⟨pq a4⟩, ⟨bw2 HB a5 b8⟩⟩
    · rw [if_neg c6] at H; have c6b0 : (a6.toList == a9.toList) = false := beq_eq_false_iff_ne.mpr c6; have c6b1 : (a6.toList != a9.toList) = true := bne_iff_ne.mpr c6
      (first | rw [c6b0] | (simp only [i64_w, i32_w]; rw [c6b0]) | rw [c6b1] | skip)
      have H' := Aside0.mk H; clear H; have m4 := b9.out; have m5 := c0.out; obtain ⟨m6, m7, m8, m9⟩ := cz4 a1; obtain ⟨n0, n1, n2, n3⟩ := fz4 a1; obtain ⟨n4, n5, n6, n7⟩ := cz4 a4; obtain ⟨n8, n9, o0, o1⟩ := fz4 a4; go_wp2
      repeat (go_quiet (fail); try go_wp2)
      go_meet
      case rel => exact ⟨_, (true), au4, H', ⟨au5⟩, ⟨pq a1⟩, ⟨pq a4⟩, ⟨bw2 HB a5 b8⟩⟩
  case rest =>
    clear e7; obtain ⟨kq, e4, rfl, HA, g1, a1, a4, HB⟩ := hcut
    cases kq with
    | zero => exact absurd HA.out (by simp [damperref2_SameRoute.j0])
    | succ g2 =>
      have H := HA.out; clear HA; simp only [damperref2_SameRoute.j0] at H; by_cases e3 : e4 = true
      · subst e3; rw [if_pos rfl] at H; obtain rfl := Option.some.inj H; go_wp2
        repeat (go_quiet (fail); try go_wp2)
        go_ret; exact ⟨au3, bw2 HB a5 b8⟩
      · replace e3 := Bool.eq_false_iff.mpr e3; subst e3; rw [if_neg (show ¬ (false = true) by decide)] at H; have H' := Aside0.mk H; clear H; go_wp2
        repeat (go_quiet (fail); try go_wp2)
        go_loopg [5] g2 (fun kq v5 w' => ∃ (a0 : Int), v5 = .int .i64 a0 ∧ Aside0 (damperref2_SameRoute.l0 kq a0 a6 a7 a2 a8 a9 b0 a3 b1 = some r) ∧ Aside0 (kq ≤ g2) ∧ Aside0 (w'.heap[b2]? = some (.cells #[.string a6, .string a7, (.slice c4 a2.length c5), .int .i64 a8] 26 (0, 0))) ∧ Aside0 (w'.heap[b7]? = some (.cells #[.string a9, .string b0, (.slice c9 a3.length d0), .int .i64 b1] 26 (0, 0))) ∧ Aside0 (Below w.heap.size w w'))
        case atStart => exact ⟨(0), au4, H', ⟨Nat.le_refl _⟩, ⟨pq a1⟩, ⟨pq a4⟩, ⟨bw2 HB a5 b8⟩⟩
        case round =>
          clear H'; (try clear e3); obtain ⟨a0, rfl, HA, g3, a1, a4, HB⟩ := hrel
          cases gk with
          | zero => exact absurd HA.out (by simp [damperref2_SameRoute.l0])
          | succ k2 =>
            have H := HA.out; clear HA; simp only [damperref2_SameRoute.l0] at H; by_cases e1 : a0 < (a2.length : Int)
            · rw [if_pos e1] at H; have c22b0 : decide (a0 < (a2.length : Int)) = true := decide_eq_true e1; clear e1; by_cases e5 : 0 ≤ a0; rotate_left
              · rw [if_neg e5] at H; exact absurd H (by simp)
              rw [if_pos e5] at H; have c23b0 : decide (0 ≤ a0) = true := decide_eq_true e5; clear e5; by_cases e6 : a0 < (a3.length : Int); rotate_left
              · rw [if_neg e6] at H; exact absurd H (by simp)
              rw [if_pos e6] at H; have c24b0 : decide (a0 < (a3.length : Int)) = true := decide_eq_true e6; clear e6; by_cases e2 : (!((((rd_T39 a2 a0).f0).toList) == (((rd_T39 a3 a0).f0).toList)) || (!((((rd_T39 a2 a0).f1).toList) == (((rd_T39 a3 a0).f1).toList)) || (!(((rd_T39 a2 a0).f2) == ((rd_T39 a3 a0).f2))))) = true
              · rw [if_pos e2] at H; have c25b0 : (!((((rd_T39 a2 a0).f0).toList) == (((rd_T39 a3 a0).f0).toList)) || (!((((rd_T39 a2 a0).f1).toList) == (((rd_T39 a3 a0).f1).toList)) || (!(((rd_T39 a2 a0).f2) == ((rd_T39 a3 a0).f2))))) = true := e2; clear e2; obtain rfl := Option.some.inj H; have o2 := b9.out; have o3 := c0.out; obtain ⟨o4, o5, o6, o7⟩ := cz4 a1; obtain ⟨o8, o9, p0, p1⟩ := fz4 a1; have d1 : 0 ≤ (a0 : Int) := of_decide_eq_true au6; have d2 : a0 < (a2.length : Int) := of_decide_eq_true au6; obtain ⟨g5, e8, d3, d4, d5⟩ := at_T39 f7.out a0 d1 d2; cases e8; replace d3 := (HB.out.cell (World.block_lt_of_cell? w _ d3)).trans d3; replace d4 := (HB.out.cell (World.block_lt_of_cell? w _ d4)).trans d4; replace d5 := (HB.out.cell (World.block_lt_of_cell? w _ d5)).trans d5; replace d1 := eq_true d1; replace d2 := eq_true d2; obtain ⟨p2, p3, p4, p5⟩ := cz4 a4; obtain ⟨p6, p7, p8, p9⟩ := fz4 a4; have d6 : 0 ≤ (a0 : Int) := of_decide_eq_true au6; have d7 : a0 < (a3.length : Int) := of_decide_eq_true au6; obtain ⟨g6, e9, d8, d9, e0⟩ := at_T39 f8.out a0 d6 d7; cases e9; replace d8 := (HB.out.cell (World.block_lt_of_cell? w _ d8)).trans d8; replace d9 := (HB.out.cell (World.block_lt_of_cell? w _ d9)).trans d9; replace e0 := (HB.out.cell (World.block_lt_of_cell? w _ e0)).trans e0; replace d6 := eq_true d6; replace d7 := eq_true d7; go_wp2
                repeat (go_quiet (fail); try go_wp2)
                go_ret; exact ⟨au3, bw2 HB a5 b8⟩
              · rw [if_neg e2] at H; (have c25b0 : (!((((rd_T39 a2 a0).f0).toList) == (((rd_T39 a3 a0).f0).toList)) || (!((((rd_T39 a2 a0).f1).toList) == (((rd_T39 a3 a0).f1).toList)) || (!(((rd_T39 a2 a0).f2) == ((rd_T39 a3 a0).f2))))) = false := by simpa using e2); clear e2; have H' := Aside0.mk H; clear H; have q0 := b9.out; have q1 := c0.out; obtain ⟨q2, q3, q4, q5⟩ := cz4 a1; obtain ⟨q6, q7, q8, q9⟩ := fz4 a1; have d1 : 0 ≤ (a0 : Int) := of_decide_eq_true au6; have d2 : a0 < (a2.length : Int) := of_decide_eq_true au6; obtain ⟨g5, e8, d3, d4, d5⟩ := at_T39 f7.out a0 d1 d2; cases e8; replace d3 := (HB.out.cell (World.block_lt_of_cell? w _ d3)).trans d3; replace d4 := (HB.out.cell (World.block_lt_of_cell? w _ d4)).trans d4; replace d5 := (HB.out.cell (World.block_lt_of_cell? w _ d5)).trans d5; replace d1 := eq_true d1; replace d2 := eq_true d2; obtain ⟨r0, r1, r2, r3⟩ := cz4 a4; obtain ⟨r4, r5, r6, r7⟩ := fz4 a4; have d6 : 0 ≤ (a0 : Int) := of_decide_eq_true au6; have d7 : a0 < (a3.length : Int) := of_decide_eq_true au6; obtain ⟨g6, e9, d8, d9, e0⟩ := at_T39 f8.out a0 d6 d7; cases e9; replace d8 := (HB.out.cell (World.block_lt_of_cell? w _ d8)).trans d8; replace d9 := (HB.out.cell (World.block_lt_of_cell? w _ d9)).trans d9; replace e0 := (HB.out.cell (World.block_lt_of_cell? w _ e0)).trans e0; replace d6 := eq_true d6; replace d7 := eq_true d7; go_wp2
                repeat (go_quiet (fail); try go_wp2)
                go_roundg k2
                case measure => have := g1.out; have := g3.out; omega
                case rel => exact ⟨(wrap64 (a0 + 1)), au4, H', ⟨by have := g1.out; have := g3.out; omega⟩, ⟨pq a1⟩, ⟨pq a4⟩, ⟨bw2 HB a5 b8⟩⟩
            · rw [if_neg e1] at H; have c22b0 : decide (a0 < (a2.length : Int)) = false := decide_eq_false e1; clear e1; obtain rfl := Option.some.inj H; have r8 := b9.out; have r9 := c0.out; obtain ⟨s0, s1, s2, s3⟩ := cz4 a1; obtain ⟨s4, s5, s6, s7⟩ := fz4 a1; go_wp2
              repeat (go_quiet (fail); try go_wp2)
              go_ret; exact ⟨au3, bw2 HB a5 b8⟩
end

section
/-! ### damperref3_Same: function 22 -/
def damperref3_Same.f (k : Nat) (a0 : Int) (a1 : ByteArray) (a2 : ByteArray) (a3 : Int) (a4 : Int) (a5 : ByteArray) (a6 : Int) (a7 : Int) (a8 : Int) (a9 : Int) (b0 : Int) (b1 : ByteArray) (b2 : ByteArray) (b3 : List (S39)) (b4 : Int) (b5 : Int) (b6 : ByteArray) (b7 : ByteArray) (b8 : Int) (b9 : Int) (c0 : ByteArray) (c1 : Int) (c2 : Int) (c3 : Int) (c4 : Int) (c5 : Int) (c6 : ByteArray) (c7 : ByteArray) (c8 : List (S39)) (c9 : Int) : Option (Bool) := if a0 = b5 then (if a1.toList = b6.toList then (if a2.toList = b7.toList then (if a3 = b8 then (if a4 = b9 then (if (a5.toList == c0.toList && (a6 == c1 && (a7 == c2 && (a8 == c3 && (a9 == c4 && (b0 == c5)))))) = true then ((damperref2_SameRoute.f k b1 b2 b3 b4 c6 c7 c8 c9).bind fun d0 => (some d0)) else (some false)) else (some false)) else (some false)) else (some false)) else (some false)) else (some false)
set_option maxHeartbeats 8000000 in
set_option maxRecDepth 100000 in
theorem damperref3_Same.calls (k : Nat) (d0 : Int) (d1 : ByteArray) (d2 : ByteArray) (d3 : Int) (d4 : Int) (b2 : ByteArray) (b3 : Int) (b4 : Int) (b5 : Int) (b6 : Int) (b7 : Int) (e5 : ByteArray) (e6 : ByteArray) (f1 : Option Addr) (f2 : Nat) (e0 : List (S39)) (e7 : Int) (d5 : Int) (d6 : ByteArray) (d7 : ByteArray) (d8 : Int) (d9 : Int) (b8 : ByteArray) (b9 : Int) (c0 : Int) (c1 : Int) (c2 : Int) (c9 : Int) (e8 : ByteArray) (e9 : ByteArray) (f3 : Option Addr) (f4 : Nat) (e1 : List (S39)) (f0 : Int) (r : Bool) (w : World) (f8 : Kd.C k39 w f1 e0.length e0) (f9 : e0.length ≤ f2) (g0 : Kd.C k39 w f3 e1.length e1) (g1 : e1.length ≤ f4) (h : damperref3_Same.f k d0 d1 d2 d3 d4 b2 b3 b4 b5 b6 b7 e5 e6 e0 e7 d5 d6 d7 d8 d9 b8 b9 c0 c1 c2 c9 e8 e9 e1 f0 = some r) :
    Calls Tryd.prog 22 #[.agg (eV d0 d1 d2 d3 d4 b2 b3 b4 b5 b6 b7 e5 e6 (.slice f1 e0.length f2) e7), .agg (eV d5 d6 d7 d8 d9 b8 b9 c0 c1 c2 c9 e8 e9 (.slice f3 e1.length f4) f0)] w fun e w' => e = .returned (.bool r) ∧ Below w.heap.size w w' := by
  have hu28 := Tryd.underlying28; have hu23 := Tryd.underlying23; have hu26 := Tryd.underlying26; have g3 := Aside0.mk f8; have g4 := Aside0.mk f9; clear f8 f9; have g5 := Aside0.mk g0; have g6 := Aside0.mk g1; clear g0 g1; have HB := Aside0.mk (Below.refl w.heap.size w); have H : (if d0 = d5 then (if d1.toList = d6.toList then (if d2.toList = d7.toList then (if d3 = d8 then (if d4 = d9 then (if (b2.toList == b8.toList && (b3 == b9 && (b4 == c0 && (b5 == c1 && (b6 == c2 && (b7 == c9)))))) = true then ((damperref2_SameRoute.f k e5 e6 e0 e7 e8 e9 e1 f0).bind fun f7 => (some f7)) else (some false)) else (some false)) else (some false)) else (some false)) else (some false)) else (some false)) = some r := h; clear h; by_cases c3 : d0 = d5
  · rw [if_pos c3] at H; have c3b0 : (d0 == d5) = true := beq_iff_eq.mpr c3; have c3b1 : (d0 != d5) = false := bne_eq_false_iff_eq.mpr c3; clear c3; by_cases c4 : d1.toList = d6.toList
    · rw [if_pos c4] at H; have c4b0 : (d1.toList == d6.toList) = true := beq_iff_eq.mpr c4; have c4b1 : (d1.toList != d6.toList) = false := bne_eq_false_iff_eq.mpr c4; clear c4; by_cases c5 : d2.toList = d7.toList
      · rw [if_pos c5] at H; have c5b0 : (d2.toList == d7.toList) = true := beq_iff_eq.mpr c5; have c5b1 : (d2.toList != d7.toList) = false := bne_eq_false_iff_eq.mpr c5; clear c5; by_cases c6 : d3 = d8
        · rw [if_pos c6] at H; have c6b0 : (d3 == d8) = true := beq_iff_eq.mpr c6; have c6b1 : (d3 != d8) = false := bne_eq_false_iff_eq.mpr c6; clear c6; by_cases c7 : d4 = d9
          · rw [if_pos c7] at H; have c7b0 : (d4 == d9) = true := beq_iff_eq.mpr c7; have c7b1 : (d4 != d9) = false := bne_eq_false_iff_eq.mpr c7; clear c7; by_cases c8 : (b2.toList == b8.toList && (b3 == b9 && (b4 == c0 && (b5 == c1 && (b6 == c2 && (b7 == c9)))))) = true
            · rw [if_pos c8] at H; have c8b0 : (b2.toList == b8.toList && (b3 == b9 && (b4 == c0 && (b5 == c1 && (b6 == c2 && (b7 == c9)))))) = true := c8
              (try (have c8b1 : decide (b2.toList = b8.toList && (b3 == b9 && (b4 == c0 && (b5 == c1 && (b6 == c2 && (b7 == c9)))))) = true := by simpa using c8))
              (try (have c8b2 : (b2.toList == b8.toList && (b3 == b9 && (b4 == c0 && (b5 == c1 && (b6 == c2 && (b7 == c9)))))) = true := by simpa using c8))
              clear c8; replace H := Option.bind_eq_some_iff.mp H; obtain ⟨f7, g2, H⟩ := H
              (try dsimp only at H)
              have A9 := Aside0.mk g2; clear g2; obtain rfl := Option.some.inj H; go_enter Tryd.func22, Tryd.ntmps22; go_wp2_with (first | ((with_reducible refine gate_dst (N := 2) rfl ?_); refine box_event ?hg (N := 2) ?hd (cs := (eV d0 d1 d2 d3 d4 b2 b3 b4 b5 b6 b7 e5 e6 (.slice f1 e0.length f2) e7)) (t := 28) ?hr ?_; (case hd => rfl); (case hg => rfl); (case hr => first | (go_simp; done) | (go_simp; rfl)); intro a4 hg w10 hbox hb; have a1 := Aside0.mk (below_step (bw0 HB) hb); have a2 := Aside0.mk (hbox); have a3 := Aside0.mk ((by rw [hg]; exact (below_size (bw0 HB)) : w.heap.size ≤ a4)); have a5 := Aside0.mk ((by rw [hg]; exact (below_size (bw0 HB)) : w.heap.size ≤ a4)); clear HB; have HB := a1; have a0 := a2; have f5 := a3; have a6 := a5; clear a1 a2 a3 a5; clear hb hbox hg) | ((with_reducible refine gate_dst (N := 3) rfl ?_); refine box_event ?hg (N := 3) ?hd (cs := (eV d5 d6 d7 d8 d9 b8 b9 c0 c1 c2 c9 e8 e9 (.slice f3 e1.length f4) f0)) (t := 28) ?hr ?_; (case hd => rfl); (case hg => rfl); (case hr => first | (go_simp; done) | (go_simp; rfl)); intro a7 hg w11 hbox hb; have a1 := Aside0.mk (blk_below (g := a4) (pk a0) hb); have a2 := Aside0.mk (below_step (bw1 HB a6) hb); have a3 := Aside0.mk (hbox); have a5 := Aside0.mk ((by rw [hg]; exact (below_size (bw1 HB a6)) : w.heap.size ≤ a7)); have a9 := Aside0.mk ((by rw [hg]; exact (below_size (bw1 HB a6)) : w.heap.size ≤ a7)); have b0 := Aside0.mk ((ne_lt hg (pk a0) : a4 ≠ a7)); have b1 := Aside0.mk ((ne_gt hg (pk a0) : a7 ≠ a4)); clear a0; clear HB; have a0 := a1; have HB := a2; have a8 := a3; have f6 := a5; have e2 := a9; have e3 := b0; have e4 := b1; clear a1 a2 a3 a5 a9 b0 b1; clear hb hbox hg; have g7 := e3.out; have g8 := e4.out; obtain ⟨g9, h0, h1, h2, h3, h4, h5, h6, h7, h8, h9, i0, i1, i2, i3⟩ := cz15 a0; obtain ⟨i4, i5, i6, i7, i8, i9, j0, j1, j2, j3, j4, j5, j6, j7, j8⟩ := fz15 a0; obtain ⟨j9, k0, k1, k2, k3, k4, k5, k6, k7, k8, k9, l0, l1, l2, l3⟩ := cz15 a8; obtain ⟨l4, l5, l6, l7, l8, l9, m0, m1, m2, m3, m4, m5, m6, m7, m8⟩ := fz15 a8) | (go_at_call 59; (with_reducible refine (damperref2_SameRoute.calls k e5 e6 _ _ e0 e7 e8 e9 _ _ e1 f0 f7 _ ?side1 ?side2 ?side3 ?side4 A9.out).mono ?_); (case side1 => exact ca ((Kd.C_below g3.out HB.out))); (case side2 => exact g4.out); (case side3 => exact ca ((Kd.C_below g5.out HB.out))); (case side4 => exact g6.out); rintro e w15 ⟨rfl, hb⟩; have a1 := Aside0.mk (blk_below (g := a4) (pk a0) hb); have a2 := Aside0.mk (blk_below (g := a7) (pk a8) hb); have a3 := Aside0.mk (below_step (bw2 HB a6 e2) hb); clear a0; clear a8; clear HB; have a0 := a1; have a8 := a2; have HB := a3; clear a1 a2 a3; (try clear hb); (try clear hb2); (try clear hk); (try clear hi))); go_ret; exact ⟨au3, bw2 HB a6 e2⟩
            · rw [if_neg c8] at H; have c8b0 : (b2.toList == b8.toList && (b3 == b9 && (b4 == c0 && (b5 == c1 && (b6 == c2 && (b7 == c9)))))) = false := by simpa using c8
              (try (have c8b1 : decide (b2.toList = b8.toList && (b3 == b9 && (b4 == c0 && (b5 == c1 && (b6 == c2 && (b7 == c9)))))) = false := by simpa using c8))
              (try (have c8b2 : (b2.toList == b8.toList && (b3 == b9 && (b4 == c0 && (b5 == c1 && (b6 == c2 && (b7 == c9)))))) = false := by simpa using c8))
              (try (have c8b3 : ¬ (b2.toList = b8.toList && (b3 == b9 && (b4 == c0 && (b5 == c1 && (b6 == c2 && (b7 == c9)))))) := by simpa using c8))
              clear c8; obtain rfl := Option.some.inj H; go_enter Tryd.func22, Tryd.ntmps22; go_wp2_with (first | ((with_reducible refine gate_dst (N := 2) rfl ?_); refine box_event ?hg (N := 2) ?hd (cs := (eV d0 d1 d2 d3 d4 b2 b3 b4 b5 b6 b7 e5 e6 (.slice f1 e0.length f2) e7)) (t := 28) ?hr ?_; (case hd => rfl); (case hg => rfl); (case hr => first | (go_simp; done) | (go_simp; rfl)); intro a4 hg w16 hbox hb; have a1 := Aside0.mk (below_step (bw0 HB) hb); have a2 := Aside0.mk (hbox); have a3 := Aside0.mk ((by rw [hg]; exact (below_size (bw0 HB)) : w.heap.size ≤ a4)); have a5 := Aside0.mk ((by rw [hg]; exact (below_size (bw0 HB)) : w.heap.size ≤ a4)); clear HB; have HB := a1; have a0 := a2; have f5 := a3; have a6 := a5; clear a1 a2 a3 a5; clear hb hbox hg) | ((with_reducible refine gate_dst (N := 3) rfl ?_); refine box_event ?hg (N := 3) ?hd (cs := (eV d5 d6 d7 d8 d9 b8 b9 c0 c1 c2 c9 e8 e9 (.slice f3 e1.length f4) f0)) (t := 28) ?hr ?_; (case hd => rfl); (case hg => rfl); (case hr => first | (go_simp; done) | (go_simp; rfl)); intro a7 hg w17 hbox hb; have a1 := Aside0.mk (blk_below (g := a4) (pk a0) hb); have a2 := Aside0.mk (below_step (bw1 HB a6) hb); have a3 := Aside0.mk (hbox); have a5 := Aside0.mk ((by rw [hg]; exact (below_size (bw1 HB a6)) : w.heap.size ≤ a7)); have a9 := Aside0.mk ((by rw [hg]; exact (below_size (bw1 HB a6)) : w.heap.size ≤ a7)); have b0 := Aside0.mk ((ne_lt hg (pk a0) : a4 ≠ a7)); have b1 := Aside0.mk ((ne_gt hg (pk a0) : a7 ≠ a4)); clear a0; clear HB; have a0 := a1; have HB := a2; have a8 := a3; have f6 := a5; have e2 := a9; have e3 := b0; have e4 := b1; clear a1 a2 a3 a5 a9 b0 b1; clear hb hbox hg; have m9 := e3.out; have n0 := e4.out; obtain ⟨n1, n2, n3, n4, n5, n6, n7, n8, n9, o0, o1, o2, o3, o4, o5⟩ := cz15 a0; obtain ⟨o6, o7, o8, o9, p0, p1, p2, p3, p4, p5, p6, p7, p8, p9, q0⟩ := fz15 a0; obtain ⟨q1, q2, q3, q4, q5, q6, q7, q8, q9, r0, r1, r2, r3, r4, r5⟩ := cz15 a8; obtain ⟨r6, r7, r8, r9, s0, s1, s2, s3, s4, s5, s6, s7, s8, s9, t0⟩ := fz15 a8)); go_ret; exact ⟨au3, bw2 HB a6 e2⟩
          · rw [if_neg c7] at H; have c7b0 : (d4 == d9) = false := beq_eq_false_iff_ne.mpr c7; have c7b1 : (d4 != d9) = true := bne_iff_ne.mpr c7; obtain rfl := Option.some.inj H; go_enter Tryd.func22, Tryd.ntmps22; go_wp2_with (first | ((with_reducible refine gate_dst (N := 2) rfl ?_); refine box_event ?hg (N := 2) ?hd (cs := (eV d0 d1 d2 d3 d4 b2 b3 b4 b5 b6 b7 e5 e6 (.slice f1 e0.length f2) e7)) (t := 28) ?hr ?_; (case hd => rfl); (case hg => rfl); (case hr => first | (go_simp; done) | (go_simp; rfl)); intro a4 hg w21 hbox hb; have a1 := Aside0.mk (below_step (bw0 HB) hb); have a2 := Aside0.mk (hbox); have a3 := Aside0.mk ((by rw [hg]; exact (below_size (bw0 HB)) : w.heap.size ≤ a4)); have a5 := Aside0.mk ((by rw [hg]; exact (below_size (bw0 HB)) : w.heap.size ≤ a4)); clear HB; have HB := a1; have a0 := a2; have f5 := a3; have a6 := a5; clear a1 a2 a3 a5; clear hb hbox hg) | ((with_reducible refine gate_dst (N := 3) rfl ?_); refine box_event ?hg (N := 3) ?hd (cs := (eV d5 d6 d7 d8 d9 b8 b9 c0 c1 c2 c9 e8 e9 (.slice f3 e1.length f4) f0)) (t := 28) ?hr ?_; (case hd => rfl); (case hg => rfl); (case hr => first | (go_simp; done) | (go_simp; rfl)); intro a7 hg w22 hbox hb; have a1 := Aside0.mk (blk_below (g := a4) (pk a0) hb); have a2 := Aside0.mk (below_step (bw1 HB a6) hb); have a3 := Aside0.mk (hbox); have a5 := Aside0.mk ((by rw [hg]; exact (below_size (bw1 HB a6)) : w.heap.size ≤ a7)); have a9 := Aside0.mk ((by rw [hg]; exact (below_size (bw1 HB a6)) : w.heap.size ≤ a7)); have b0 := Aside0.mk ((ne_lt hg (pk a0) : a4 ≠ a7)); have b1 := Aside0.mk ((ne_gt hg (pk a0) : a7 ≠ a4)); clear a0; clear HB; have a0 := a1; have HB := a2; have a8 := a3; have f6 := a5; have e2 := a9; have e3 := b0; have e4 := b1; clear a1 a2 a3 a5 a9 b0 b1; clear hb hbox hg; have t1 := e3.out; have t2 := e4.out; obtain ⟨t3, t4, t5, t6, t7, t8, t9, u0, u1, u2, u3, u4, u5, u6, u7⟩ := cz15 a0; obtain ⟨u8, u9, v0, v1, v2, v3, v4, v5, v6, v7, v8, v9, w0, w1, w2⟩ := fz15 a0; obtain ⟨w3, w4, w5, w6, w7, w8, w9, x0, x1, x2, x3, x4, x5, x6, x7⟩ := cz15 a8; obtain ⟨x8, x9, y0, y1, y2, y3, y4, y5, y6, y7, y8, y9, z0, z1, z2⟩ := fz15 a8)); go_ret; exact ⟨au3, bw2 HB a6 e2⟩
        · rw [if_neg c6] at H; have c6b0 : (d3 == d8) = false := beq_eq_false_iff_ne.mpr c6; have c6b1 : (d3 != d8) = true := bne_iff_ne.mpr c6; obtain rfl := Option.some.inj H; go_enter Tryd.func22, Tryd.ntmps22; go_wp2_with (first | ((with_reducible refine gate_dst (N := 2) rfl ?_); refine box_event ?hg (N := 2) ?hd (cs := (eV d0 d1 d2 d3 d4 b2 b3 b4 b5 b6 b7 e5 e6 (.slice f1 e0.length f2) e7)) (t := 28) ?hr ?_; (case hd => rfl); (case hg => rfl); (case hr => first | (go_simp; done) | (go_simp; rfl)); intro a4 hg w26 hbox hb; have a1 := Aside0.mk (below_step (bw0 HB) hb); have a2 := Aside0.mk (hbox); have a3 := Aside0.mk ((by rw [hg]; exact (below_size (bw0 HB)) : w.heap.size ≤ a4)); have a5 := Aside0.mk ((by rw [hg]; exact (below_size (bw0 HB)) : w.heap.size ≤ a4)); clear HB; have HB := a1; have a0 := a2; have f5 := a3; have a6 := a5; clear a1 a2 a3 a5; clear hb hbox hg) | ((with_reducible refine gate_dst (N := 3) rfl ?_); refine box_event ?hg (N := 3) ?hd (cs := (eV d5 d6 d7 d8 d9 b8 b9 c0 c1 c2 c9 e8 e9 (.slice f3 e1.length f4) f0)) (t := 28) ?hr ?_; (case hd => rfl); (case hg => rfl); (case hr => first | (go_simp; done) | (go_simp; rfl)); intro a7 hg w27 hbox hb; have a1 := Aside0.mk (blk_below (g := a4) (pk a0) hb); have a2 := Aside0.mk (below_step (bw1 HB a6) hb); have a3 := Aside0.mk (hbox); have a5 := Aside0.mk ((by rw [hg]; exact (below_size (bw1 HB a6)) : w.heap.size ≤ a7)); have a9 := Aside0.mk ((by rw [hg]; exact (below_size (bw1 HB a6)) : w.heap.size ≤ a7)); have b0 := Aside0.mk ((ne_lt hg (pk a0) : a4 ≠ a7)); have b1 := Aside0.mk ((ne_gt hg (pk a0) : a7 ≠ a4)); clear a0; clear HB; have a0 := a1; have HB := a2; have a8 := a3; have f6 := a5; have e2 := a9; have e3 := b0; have e4 := b1; clear a1 a2 a3 a5 a9 b0 b1; clear hb hbox hg; have z3 := e3.out; have z4 := e4.out; obtain ⟨z5, z6, z7, z8, z9, A1, A2, A3, A4, A5, A6, A7, A8, B0, B1⟩ := cz15 a0; obtain ⟨B2, B3, B4, B5, B6, B7, B8, B9, C0, C1, C2, C3, C4, C5, C6⟩ := fz15 a0; obtain ⟨C7, C8, C9, D0, D1, D2, D3, D4, D5, D6, D7, D8, D9, E0, E1⟩ := cz15 a8; obtain ⟨E2, E3, E4, E5, E6, E7, E8, E9, F0, F1, F2, F3, F4, F5, F6⟩ := fz15 a8)); go_ret; exact ⟨au3, bw2 HB a6 e2⟩
      · rw [if_neg c5] at H; have c5b0 : (d2.toList == d7.toList) = false := beq_eq_false_iff_ne.mpr c5; have c5b1 : (d2.toList != d7.toList) = true := bne_iff_ne.mpr c5; obtain rfl := Option.some.inj H; go_enter Tryd.func22, Tryd.ntmps22; go_wp2_with (first | ((with_reducible refine gate_dst (N := 2) rfl ?_); refine box_event ?hg (N := 2) ?hd (cs := (eV d0 d1 d2 d3 d4 b2 b3 b4 b5 b6 b7 e5 e6 (.slice f1 e0.length f2) e7)) (t := 28) ?hr ?_; (case hd => rfl); (case hg => rfl); (case hr => first | (go_simp; done) | (go_simp; rfl)); intro a4 hg w31 hbox hb; have a1 := Aside0.mk (below_step (bw0 HB) hb); have a2 := Aside0.mk (hbox); have a3 := Aside0.mk ((by rw [hg]; exact (below_size (bw0 HB)) : w.heap.size ≤ a4)); have a5 := Aside0.mk ((by rw [hg]; exact (below_size (bw0 HB)) : w.heap.size ≤ a4)); clear HB; have HB := a1; have a0 := a2; have f5 := a3; have a6 := a5; clear a1 a2 a3 a5; clear hb hbox hg) | ((with_reducible refine gate_dst (N := 3) rfl ?_); refine box_event ?hg (N := 3) ?hd (cs := (eV d5 d6 d7 d8 d9 b8 b9 c0 c1 c2 c9 e8 e9 (.slice f3 e1.length f4) f0)) (t := 28) ?hr ?_; (case hd => rfl); (case hg => rfl); (case hr => first | (go_simp; done) | (go_simp; rfl)); intro a7 hg w32 hbox hb; have a1 := Aside0.mk (blk_below (g := a4) (pk a0) hb); have a2 := Aside0.mk (below_step (bw1 HB a6) hb); have a3 := Aside0.mk (hbox); have a5 := Aside0.mk ((by rw [hg]; exact (below_size (bw1 HB a6)) : w.heap.size ≤ a7)); have a9 := Aside0.mk ((by rw [hg]; exact (below_size (bw1 HB a6)) : w.heap.size ≤ a7)); have b0 := Aside0.mk ((ne_lt hg (pk a0) : a4 ≠ a7)); have b1 := Aside0.mk ((ne_gt hg (pk a0) : a7 ≠ a4)); clear a0; clear HB; have a0 := a1; have HB := a2; have a8 := a3; have f6 := a5; have e2 := a9; have e3 := b0; have e4 := b1; clear a1 a2 a3 a5 a9 b0 b1; clear hb hbox hg; have F7 := e3.out; have F8 := e4.out; obtain ⟨F9, G0, G1, G2, G3, G4, G5, G6, G7, G8, G9, H0, H1, H2, H3⟩ := cz15 a0; obtain ⟨H4, H5, H6, H7, H8, H9, I0, I1, I2, I3, I4, I5, I6, I7, I8⟩ := fz15 a0; obtain ⟨I9, J0, J1, J2, J3, J4, J5, J6, J7, J8, J9, K0, K1, K2, K3⟩ := cz15 a8; obtain ⟨K4, K5, K6, K7, K8, K9, L0, L1, L2, L3, L4, L5, L6, L7, L8⟩ := fz15 a8)); go_ret; exact ⟨au3, bw2 HB a6 e2⟩
    · rw [if_neg c4] at H; have c4b0 : (d1.toList == d6.toList) = false := beq_eq_false_iff_ne.mpr c4; have c4b1 : (d1.toList != d6.toList) = true := bne_iff_ne.mpr c4; obtain rfl := Option.some.inj H; go_enter Tryd.func22, Tryd.ntmps22; go_wp2_with (first | ((with_reducible refine gate_dst (N := 2) rfl ?_); refine box_event ?hg (N := 2) ?hd (cs := (eV d0 d1 d2 d3 d4 b2 b3 b4 b5 b6 b7 e5 e6 (.slice f1 e0.length f2) e7)) (t := 28) ?hr ?_; (case hd => rfl); (case hg => rfl); (case hr => first | (go_simp; done) | (go_simp; rfl)); intro a4 hg w36 hbox hb; have a1 := Aside0.mk (below_step (bw0 HB) hb); have a2 := Aside0.mk (hbox); have a3 := Aside0.mk ((by rw [hg]; exact (below_size (bw0 HB)) : w.heap.size ≤ a4)); have a5 := Aside0.mk ((by rw [hg]; exact (below_size (bw0 HB)) : w.heap.size ≤ a4)); clear HB; have HB := a1; have a0 := a2; have f5 := a3; have a6 := a5; clear a1 a2 a3 a5; clear hb hbox hg) | ((with_reducible refine gate_dst (N := 3) rfl ?_); refine box_event ?hg (N := 3) ?hd (cs := (eV d5 d6 d7 d8 d9 b8 b9 c0 c1 c2 c9 e8 e9 (.slice f3 e1.length f4) f0)) (t := 28) ?hr ?_; (case hd => rfl); (case hg => rfl); (case hr => first | (go_simp; done) | (go_simp; rfl)); intro a7 hg w37 hbox hb; have a1 := Aside0.mk (blk_below (g := a4) (pk a0) hb); have a2 := Aside0.mk (below_step (bw1 HB a6) hb); have a3 := Aside0.mk (hbox); have a5 := Aside0.mk ((by rw [hg]; exact (below_size (bw1 HB a6)) : w.heap.size ≤ a7)); have a9 := Aside0.mk ((by rw [hg]; exact (below_size (bw1 HB a6)) : w.heap.size ≤ a7)); have b0 := Aside0.mk ((ne_lt hg (pk a0) : a4 ≠ a7)); have b1 := Aside0.mk ((ne_gt hg (pk a0) : a7 ≠ a4)); clear a0; clear HB; have a0 := a1; have HB := a2; have a8 := a3; have f6 := a5; have e2 := a9; have e3 := b0; have e4 := b1; clear a1 a2 a3 a5 a9 b0 b1; clear hb hbox hg; have L9 := e3.out; have M0 := e4.out; obtain ⟨M1, M2, M3, M4, M5, M6, M7, M8, M9, N0, N1, N2, N3, N4, N5⟩ := cz15 a0; obtain ⟨N6, N7, N8, N9, O0, O1, O2, O3, O4, O5, O6, O7, O8, O9, P0⟩ := fz15 a0; obtain ⟨P1, P2, P3, P4, P5, P6, P7, P8, P9, Q0, Q1, Q2, Q3, Q4, Q5⟩ := cz15 a8; obtain ⟨Q6, Q7, Q8, Q9, R0, R1, R2, R3, R4, R5, R6, R7, R8, R9, S0⟩ := fz15 a8)); go_ret; exact ⟨au3, bw2 HB a6 e2⟩
  · rw [if_neg c3] at H; have c3b0 : (d0 == d5) = false := beq_eq_false_iff_ne.mpr c3; have c3b1 : (d0 != d5) = true := bne_iff_ne.mpr c3; obtain rfl := Option.some.inj H; go_enter Tryd.func22, Tryd.ntmps22; go_wp2_with (first | ((with_reducible refine gate_dst (N := 2) rfl ?_); refine box_event ?hg (N := 2) ?hd (cs := (eV d0 d1 d2 d3 d4 b2 b3 b4 b5 b6 b7 e5 e6 (.slice f1 e0.length f2) e7)) (t := 28) ?hr ?_; (case hd => rfl); (case hg => rfl); (case hr => first | (go_simp; done) | (go_simp; rfl)); intro a4 hg w41 hbox hb; have a1 := Aside0.mk (below_step (bw0 HB) hb); have a2 := Aside0.mk (hbox); have a3 := Aside0.mk ((by rw [hg]; exact (below_size (bw0 HB)) : w.heap.size ≤ a4)); have a5 := Aside0.mk ((by rw [hg]; exact (below_size (bw0 HB)) : w.heap.size ≤ a4)); clear HB; have HB := a1; have a0 := a2; have f5 := a3; have a6 := a5; clear a1 a2 a3 a5; clear hb hbox hg) | ((with_reducible refine gate_dst (N := 3) rfl ?_); refine box_event ?hg (N := 3) ?hd (cs := (eV d5 d6 d7 d8 d9 b8 b9 c0 c1 c2 c9 e8 e9 (.slice f3 e1.length f4) f0)) (t := 28) ?hr ?_; (case hd => rfl); (case hg => rfl); (case hr => first | (go_simp; done) | (go_simp; rfl)); intro a7 hg w42 hbox hb; have a1 := Aside0.mk (blk_below (g := a4) (pk a0) hb); have a2 := Aside0.mk (below_step (bw1 HB a6) hb); have a3 := Aside0.mk (hbox); have a5 := Aside0.mk ((by rw [hg]; exact (below_size (bw1 HB a6)) : w.heap.size ≤ a7)); have a9 := Aside0.mk ((by rw [hg]; exact (below_size (bw1 HB a6)) : w.heap.size ≤ a7)); have b0 := Aside0.mk ((ne_lt hg (pk a0) : a4 ≠ a7)); have b1 := Aside0.mk ((ne_gt hg (pk a0) : a7 ≠ a4)); clear a0; clear HB; have a0 := a1; have HB := a2; have a8 := a3; have f6 := a5; have e2 := a9; have e3 := b0; have e4 := b1; clear a1 a2 a3 a5 a9 b0 b1; clear hb hbox hg; have S1 := e3.out; have S2 := e4.out; obtain ⟨S3, S4, S5, S6, S7, S8, S9, T0, T1, T2, T3, T4, T5, T6, T7⟩ := cz15 a0; obtain ⟨T8, T9, U0, U1, U2, U3, U4, U5, U6, U7, U8, U9, V0, V1, V2⟩ := fz15 a0; obtain ⟨V3, V4, V5, V6, V7, V8, V9, W0, W1, W2, W3, W4, W5, W6, W7⟩ := cz15 a8; obtain ⟨W8, W9, X0, X1, X2, X3, X4, X5, X6, X7, X8, X9, Y0, Y1, Y2⟩ := fz15 a8)); go_ret; exact ⟨au3, bw2 HB a6 e2⟩
end

section
/-! ### event_lay: function 62 -/
def event_lay.l0 : Nat → List Int → Int → Int → Option (List Int)
  | 0, _, _, _ => none
  | k + 1, x0, x1, x7 => if x7 ≥ 0 then (if 0 ≤ (wrap64 (8 * x7)) then (if x0.length < 140737488355328 then (event_lay.l0 k (x0 ++ [(shr .i64 x1 (wrap64 (8 * x7))) % 256]) x1 (wrap64 (x7 - 1))) else (none)) else (none)) else (some x0)
def event_lay.f (k : Nat) (l0 : List Int) (a1 : Int) (a2 : Int) : Option (List Int) := event_lay.l0 k l0 a1 (wrap64 (a2 - 1))
set_option maxHeartbeats 8000000 in
set_option maxRecDepth 100000 in
theorem event_lay.calls (k : Nat) (a4 : Nat → Prop) (b0 : Value) (l0 : List Int) (a1 : Int) (a2 : Int) (r : List Int) (w0 w : World) (hB : Below w0.heap.size w0 w) (b9 : Kd.R (Kd.int .u8) 5 w w0.heap.size a4 b0 l0) (h : event_lay.f k l0 a1 a2 = some r) :
    Calls Tryd.prog 62 #[b0, .int .i64 a1, .int .i64 a2] w fun e w' => ∃ b3 : Value, e = .returned (b3) ∧ Kd.R (Kd.int .u8) 5 w' w0.heap.size (fun k_ => (a4 k_ ∨ w.heap.size ≤ k_)) b3 r ∧ Below w0.heap.size w0 w' ∧ Kept w w' (fun k_ => a4 k_) := by
  have c0 := Aside0.mk (show Kd.R (Kd.int .u8) 5 w w0.heap.size (fun k_ => (a4 k_ ∨ w.heap.size ≤ k_)) b0 l0 from Kd.R_mono b9 (fun k_ hk => (.inl hk))); have HK := Aside0.mk (Kept.refl w (fun k_ => a4 k_)); have HW0 := Aside0.mk hB.size; have HB := Aside0.mk hB; clear hB; have H : (event_lay.l0 k l0 a1 (wrap64 (a2 - 1))) = some r := h; clear h; have H' := Aside0.mk H; clear H; go_enter Tryd.func62, Tryd.ntmps62; go_wp2; go_loopg [0, 7] k (fun kq v0 v7 w' => ∃ (a5 : List Int) (a0 : Int), v7 = .int .i64 a0 ∧ Aside0 (event_lay.l0 kq a5 a1 a0 = some r) ∧ Aside0 (kq ≤ k) ∧ Aside0 (Kd.R (Kd.int .u8) 5 w' w0.heap.size (fun k_ => (a4 k_ ∨ w.heap.size ≤ k_)) v0 a5) ∧ Aside0 (Kept w w' (fun k_ => a4 k_)) ∧ Aside0 (Below w0.heap.size w0 w'))
  case atStart => exact ⟨(l0), (wrap64 (a2 - 1)), au4, H', ⟨Nat.le_refl _⟩, ⟨kr c0⟩, ⟨by repeat (first | (with_reducible first | exact HK.out | apply Kept.alloc | apply Kept.drewN | apply Kept.drew) | exact HK.out)⟩, ⟨bw0 HB⟩⟩
  case round =>
    clear H'; obtain ⟨a5, a0, rfl, HA, b4, a8, HK, HB⟩ := hrel
    cases gk with
    | zero => exact absurd HA.out (by simp [event_lay.l0])
    | succ k1 =>
      have H := HA.out; clear HA; simp only [event_lay.l0] at H; by_cases c4 : a0 ≥ 0
      · rw [if_pos c4] at H; have c4b0 : decide (0 ≤ a0) = true := decide_eq_true c4; clear c4; obtain ⟨a3, b1⟩ : ∃ j_ : Int, (wrap64 (8 * a0)) = j_ := ⟨_, rfl⟩; (replace H : (if 0 ≤ (a3) then (if a5.length < 140737488355328 then (event_lay.l0 k1 (a5 ++ [(shr .i64 a1 (a3)) % 256]) a1 (wrap64 (a0 - 1))) else (none)) else (none)) = some r := by first | (rw [b1] at H; exact H) | (simp only [b1] at H ⊢; exact H)); have c5 : (IntKind.i64.wrap (8 * a0)) = a3 := (i64_w _).trans b1; by_cases c6 : 0 ≤ (a3); rotate_left
        · rw [if_neg c6] at H; exact absurd H (by simp)
        rw [if_pos c6] at H; have c6b0 := eq_true c6; have c6b1 : decide (0 ≤ (a3)) = true := decide_eq_true c6; (try have c6bm : max (a3) 0 = (a3) := Int.max_eq_left c6); clear c6; obtain ⟨a6, a9⟩ : ∃ j_ : Int, (shr .i64 a1 (a3)) = j_ := ⟨_, rfl⟩; (replace H : (if a5.length < 140737488355328 then (event_lay.l0 k1 (a5 ++ [(a6) % 256]) a1 (wrap64 (a0 - 1))) else (none)) = some r := by first | (rw [a9] at H; exact H) | (simp only [a9] at H ⊢; exact H)); have c7 : (a1 / 2 ^ min (a3).toNat 64) = a6 := a9; have c9 : (a3) ≤ 64 → (a1 / 2 ^ (a3).toNat) = a6 := shr_small a9; by_cases c8 : a5.length < 140737488355328; rotate_left
        · rw [if_neg c8] at H; exact absurd H (by simp)
        rw [if_pos c8] at H; have c1 := Aside0.mk c8; clear c8; obtain ⟨b5, a7⟩ : ∃ y_ : List Int, y_ = (a5 ++ [(a6) % 256]) := ⟨_, rfl⟩; (replace H : (event_lay.l0 k1 b5 a1 (wrap64 (a0 - 1))) = some r := by first | (rw [a7]; with_reducible exact H) | (have b2 := (Option.bind_some _ _).symm.trans H; rw [a7]; with_reducible exact b2) | (have b2 := (Option.bind_some _ _).symm.trans H; with_reducible exact b2) | with_reducible exact H | (rw [a7]; exact H) | exact H); have c2 := Aside0.mk a7; clear a7; have H' := Aside0.mk H; clear H; go_wp2_with (first | ((with_reducible refine gate_builtin (b := .append) (xs := #[.tmp 14, .tmp 20]) rfl ?_); at_builtin; refine Kd.R_append (Kd.int .u8) (w0 := w0) w0.heap.size rfl (.tmp 14) (.tmp 20) 41 5 (.int .u8 0) 1 rfl Tryd.underlying41 info5 rfl (by decide) (by omega) u0 a5 ((a6) % 256) [.int .u8 ((a6) % 256)] (fun k_ => (a4 k_ ∨ w.heap.size ≤ k_)) (fun _ => False) rfl rfl ?aP (fun _ hk => hk.elim) ?aF ?aO ?aB ?aS ?aL ?_; (case aP => exact rfl); (case aB => exact (bw0 HB)); (case aF => exact (fun k_ hk => (.inr (Nat.le_trans (by first | exact HK.out.1 | exact (show Kept w _ (fun k_ => a4 k_) from by repeat (first | (with_reducible first | exact HK.out | apply Kept.alloc | apply Kept.drewN | apply Kept.drew) | exact HK.out)).1) hk)))); (case aO => exact (kr a8)); (case aS => exact (below_size (bw0 HB))); (case aL => have := c1.out; omega); intro v519 w9 ho hb hg hat; rw [← c2.out] at ho; have b6 := Aside0.mk (hb); have b7 := Aside0.mk (Kept.of_grown (S := (fun k_ => a4 k_)) hg (by repeat (first | (with_reducible first | exact HK.out | apply Kept.alloc | apply Kept.drewN | apply Kept.drew) | exact HK.out)) (fun k_ e_ => (a8.out.1 k_ e_))); have b8 := Aside0.mk (ho); clear HB; clear HK; clear a8; have HB := b6; have HK := b7; have c3 := b8; clear b6 b7 b8; clear ho hb hg hat)); go_roundg k1
        case measure => have := b4.out; omega
        case rel => exact ⟨(b5), (wrap64 (a0 - 1)), au4, H', ⟨by have := b4.out; omega⟩, ⟨kr c3⟩, ⟨by repeat (first | (with_reducible first | exact HK.out | apply Kept.alloc | apply Kept.drewN | apply Kept.drew) | exact HK.out)⟩, ⟨bw0 HB⟩⟩
      · rw [if_neg c4] at H; have c4b0 : decide (0 ≤ a0) = false := decide_eq_false c4; clear c4; obtain rfl := Option.some.inj H; go_wp2; go_ret; exact ⟨_, au3, by (with_reducible repeat (first | apply Kd.R_alloc | apply Kd.R_drewN | apply Kd.R_drew)); exact a8.out, by repeat (first | (with_reducible first | exact HB.out | apply below_alloc | apply pw_below_drewN | apply below_drew1) | exact HB.out), by repeat (first | (with_reducible first | exact HK.out | apply Kept.alloc | apply Kept.drewN | apply Kept.drew) | exact HK.out)⟩
end

end Go.Proofs.YtalpoojepffldaaDoor.Ma
