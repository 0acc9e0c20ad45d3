-- Written by a program of this session (wip/tools/pack.py) out of its printed parts. Not trusted: Lean checks it.
import Derived.Test.YtalpoojepffldaaDoorMax0
import Derived.Test.YtalpoojepffldaaDoorPa
namespace Go.Proofs.YtalpoojepffldaaDoor.Ma
open Go.RowKit Go.Proofs.YtalpoojepffldaaDoorW.PrintWords Go.Proofs.YtalpoojepffldaaDoorW.PrintLast Go.Proofs.YtalpoojepffldaaDoorW.PrintMore
attribute [local go_sem] max2_int min2_int max_two min_two max_three min_three max_four min_four   -- for this text's walks alone
set_option linter.unusedVariables false
set_option linter.unusedSimpArgs false

section
/-! ### event_Check: function 15 -/
mutual
def event_Check.j0 : Nat → Bool → Int → ByteArray → ByteArray → Int → Int → ByteArray → Int → Int → Int → Int → Int → ByteArray → ByteArray → List (S39) → Int → Bool → Bool → Bool → Bool → Bool → Bool → Option (Int)
  | 0, _, _, _, _, _, _, _, _, _, _, _, _, _, _, _, _, _, _, _, _, _, _ => none
  | k + 1, x61, x174000, x174001, x174002, x174003, x174004, x174005, x174006, x174007, x174008, x174009, x174010, x174011, x174012, x174013, x174014, x182000, x182001, x182002, x182003, x182004, x182005 => if x61 = true then (some 2) else (if x182000 = true then ((event_number.f k x174000 x174001 x174002 x174003 x174004 x174005 x174006 x174007 x174008 x174009 x174010 x174011 x174012 x174013 x174014).bind fun t188 => (event_Check.j1 k (!t188) x174000 x174001 x174002 x174003 x174004 x174005 x174006 x174007 x174008 x174009 x174010 x174011 x174012 x174013 x174014 x182000 x182001 x182002 x182003 x182004 x182005)) else (event_Check.j1 k false x174000 x174001 x174002 x174003 x174004 x174005 x174006 x174007 x174008 x174009 x174010 x174011 x174012 x174013 x174014 x182000 x182001 x182002 x182003 x182004 x182005))
def event_Check.j1 : Nat → Bool → Int → ByteArray → ByteArray → Int → Int → ByteArray → Int → Int → Int → Int → Int → ByteArray → ByteArray → List (S39) → Int → Bool → Bool → Bool → Bool → Bool → Bool → Option (Int)
  | 0, _, _, _, _, _, _, _, _, _, _, _, _, _, _, _, _, _, _, _, _, _, _ => none
  | k + 1, x62, x174000, x174001, x174002, x174003, x174004, x174005, x174006, x174007, x174008, x174009, x174010, x174011, x174012, x174013, x174014, x182000, x182001, x182002, x182003, x182004, x182005 => if x62 = true then (some 2) else (if x182001 = true then ((event_named.f k x174000 x174001 x174002 x174003 x174004 x174005 x174006 x174007 x174008 x174009 x174010 x174011 x174012 x174013 x174014).bind fun t189 => (event_Check.j2 k (!t189) x174000 x174001 x174002 x174003 x174004 x174005 x174006 x174007 x174008 x174009 x174010 x174011 x174012 x174013 x174014 x182000 x182001 x182002 x182003 x182004 x182005)) else (event_Check.j2 k false x174000 x174001 x174002 x174003 x174004 x174005 x174006 x174007 x174008 x174009 x174010 x174011 x174012 x174013 x174014 x182000 x182001 x182002 x182003 x182004 x182005))
def event_Check.j2 : Nat → Bool → Int → ByteArray → ByteArray → Int → Int → ByteArray → Int → Int → Int → Int → Int → ByteArray → ByteArray → List (S39) → Int → Bool → Bool → Bool → Bool → Bool → Bool → Option (Int)
  | 0, _, _, _, _, _, _, _, _, _, _, _, _, _, _, _, _, _, _, _, _, _, _ => none
  | k + 1, x70, x174000, x174001, x174002, x174003, x174004, x174005, x174006, x174007, x174008, x174009, x174010, x174011, x174012, x174013, x174014, x182000, x182001, x182002, x182003, x182004, x182005 => if x70 = true then (some 1) else (if x182002 = true then (if x174002.toList = ([] : List UInt8) then (event_Check.j3 k false x174000 x174001 x174002 x174003 x174004 x174005 x174006 x174007 x174008 x174009 x174010 x174011 x174012 x174013 x174014 x182000 x182001 x182002 x182003 x182004 x182005) else ((label_Tag.f x174002).bind fun t190 => (event_Check.j3 k (!t190) x174000 x174001 x174002 x174003 x174004 x174005 x174006 x174007 x174008 x174009 x174010 x174011 x174012 x174013 x174014 x182000 x182001 x182002 x182003 x182004 x182005))) else (event_Check.j3 k false x174000 x174001 x174002 x174003 x174004 x174005 x174006 x174007 x174008 x174009 x174010 x174011 x174012 x174013 x174014 x182000 x182001 x182002 x182003 x182004 x182005))
def event_Check.j3 : Nat → Bool → Int → ByteArray → ByteArray → Int → Int → ByteArray → Int → Int → Int → Int → Int → ByteArray → ByteArray → List (S39) → Int → Bool → Bool → Bool → Bool → Bool → Bool → Option (Int)
  | 0, _, _, _, _, _, _, _, _, _, _, _, _, _, _, _, _, _, _, _, _, _, _ => none
  | k + 1, x78, x174000, x174001, x174002, x174003, x174004, x174005, x174006, x174007, x174008, x174009, x174010, x174011, x174012, x174013, x174014, x182000, x182001, x182002, x182003, x182004, x182005 => if x78 = true then (some 1) else (if x182003 = true then ((event_within.f x174004 0 2147483647).bind fun t191 => (event_Check.j4 k (!t191) x174000 x174001 x174002 x174003 x174004 x174005 x174006 x174007 x174008 x174009 x174010 x174011 x174012 x174013 x174014 x182000 x182001 x182002 x182003 x182004 x182005)) else (event_Check.j4 k false x174000 x174001 x174002 x174003 x174004 x174005 x174006 x174007 x174008 x174009 x174010 x174011 x174012 x174013 x174014 x182000 x182001 x182002 x182003 x182004 x182005))
def event_Check.j4 : Nat → Bool → Int → ByteArray → ByteArray → Int → Int → ByteArray → Int → Int → Int → Int → Int → ByteArray → ByteArray → List (S39) → Int → Bool → Bool → Bool → Bool → Bool → Bool → Option (Int)
  | 0, _, _, _, _, _, _, _, _, _, _, _, _, _, _, _, _, _, _, _, _, _, _ => none
  | k + 1, x92, x174000, x174001, x174002, x174003, x174004, x174005, x174006, x174007, x174008, x174009, x174010, x174011, x174012, x174013, x174014, x182000, x182001, x182002, x182003, x182004, x182005 => if x92 = true then (some 2) else (if x182004 = true then ((spec_Config.f k x174005 x174006 x174007 x174008 x174009 x174010).bind fun t192 => (some t192)) else (if x182005 = true then ((spec_Route.f k x174011 x174012 x174013 x174014).bind fun t193 => (some t193)) else (some 0)))
end
def event_Check.f (k : Nat) (a0_0 : Int) (a0_1 : ByteArray) (a0_2 : ByteArray) (a0_3 : Int) (a0_4 : Int) (a0_5 : ByteArray) (a0_6 : Int) (a0_7 : Int) (a0_8 : Int) (a0_9 : Int) (a0_10 : Int) (a0_11 : ByteArray) (a0_12 : ByteArray) (l0_13 : List (S39)) (a0_14 : Int) : Option (Int) := (event_shape.f k a0_0).bind fun bt174 => (if bt174.2.2.2.2.2.2 = true then ((event_none_int.f bt174.1 a0_3).bind fun t182 => (if t182 = true then ((event_none_string.f bt174.2.1 a0_1).bind fun t183 => (if t183 = true then ((event_none_string.f bt174.2.2.1 a0_2).bind fun t184 => (if t184 = true then ((event_none_int.f bt174.2.2.2.1 a0_4).bind fun t185 => (if t185 = true then ((api_Config.f bt174.2.2.2.2.1 a0_5 a0_6 a0_7 a0_8 a0_9 a0_10).bind fun t186 => (if t186 = true then (if bt174.2.2.2.2.2.1 = true then (event_Check.j0 k false a0_0 a0_1 a0_2 a0_3 a0_4 a0_5 a0_6 a0_7 a0_8 a0_9 a0_10 a0_11 a0_12 l0_13 a0_14 bt174.1 bt174.2.1 bt174.2.2.1 bt174.2.2.2.1 bt174.2.2.2.2.1 bt174.2.2.2.2.2.1) else ((event_bare.f a0_11 a0_12 l0_13 a0_14).bind fun t187 => (event_Check.j0 k (!t187) a0_0 a0_1 a0_2 a0_3 a0_4 a0_5 a0_6 a0_7 a0_8 a0_9 a0_10 a0_11 a0_12 l0_13 a0_14 bt174.1 bt174.2.1 bt174.2.2.1 bt174.2.2.2.1 bt174.2.2.2.2.1 bt174.2.2.2.2.2.1))) else (event_Check.j0 k true a0_0 a0_1 a0_2 a0_3 a0_4 a0_5 a0_6 a0_7 a0_8 a0_9 a0_10 a0_11 a0_12 l0_13 a0_14 bt174.1 bt174.2.1 bt174.2.2.1 bt174.2.2.2.1 bt174.2.2.2.2.1 bt174.2.2.2.2.2.1))) else (event_Check.j0 k true a0_0 a0_1 a0_2 a0_3 a0_4 a0_5 a0_6 a0_7 a0_8 a0_9 a0_10 a0_11 a0_12 l0_13 a0_14 bt174.1 bt174.2.1 bt174.2.2.1 bt174.2.2.2.1 bt174.2.2.2.2.1 bt174.2.2.2.2.2.1))) else (event_Check.j0 k true a0_0 a0_1 a0_2 a0_3 a0_4 a0_5 a0_6 a0_7 a0_8 a0_9 a0_10 a0_11 a0_12 l0_13 a0_14 bt174.1 bt174.2.1 bt174.2.2.1 bt174.2.2.2.1 bt174.2.2.2.2.1 bt174.2.2.2.2.2.1))) else (event_Check.j0 k true a0_0 a0_1 a0_2 a0_3 a0_4 a0_5 a0_6 a0_7 a0_8 a0_9 a0_10 a0_11 a0_12 l0_13 a0_14 bt174.1 bt174.2.1 bt174.2.2.1 bt174.2.2.2.1 bt174.2.2.2.2.1 bt174.2.2.2.2.2.1))) else (event_Check.j0 k true a0_0 a0_1 a0_2 a0_3 a0_4 a0_5 a0_6 a0_7 a0_8 a0_9 a0_10 a0_11 a0_12 l0_13 a0_14 bt174.1 bt174.2.1 bt174.2.2.1 bt174.2.2.2.1 bt174.2.2.2.2.1 bt174.2.2.2.2.2.1))) else (some 12))
theorem event_Check.mono_l : ∀ k, (∀ y0 y1 y2 y3 y4 y5 y6 y7 y8 y9 y10 y11 y12 y13 y14 y15 y16 y17 y18 y19 y20 y21, LeO (event_Check.j0 k y0 y1 y2 y3 y4 y5 y6 y7 y8 y9 y10 y11 y12 y13 y14 y15 y16 y17 y18 y19 y20 y21) (event_Check.j0 (k + 1) y0 y1 y2 y3 y4 y5 y6 y7 y8 y9 y10 y11 y12 y13 y14 y15 y16 y17 y18 y19 y20 y21)) ∧ (∀ y0 y1 y2 y3 y4 y5 y6 y7 y8 y9 y10 y11 y12 y13 y14 y15 y16 y17 y18 y19 y20 y21, LeO (event_Check.j1 k y0 y1 y2 y3 y4 y5 y6 y7 y8 y9 y10 y11 y12 y13 y14 y15 y16 y17 y18 y19 y20 y21) (event_Check.j1 (k + 1) y0 y1 y2 y3 y4 y5 y6 y7 y8 y9 y10 y11 y12 y13 y14 y15 y16 y17 y18 y19 y20 y21)) ∧ (∀ y0 y1 y2 y3 y4 y5 y6 y7 y8 y9 y10 y11 y12 y13 y14 y15 y16 y17 y18 y19 y20 y21, LeO (event_Check.j2 k y0 y1 y2 y3 y4 y5 y6 y7 y8 y9 y10 y11 y12 y13 y14 y15 y16 y17 y18 y19 y20 y21) (event_Check.j2 (k + 1) y0 y1 y2 y3 y4 y5 y6 y7 y8 y9 y10 y11 y12 y13 y14 y15 y16 y17 y18 y19 y20 y21)) ∧ (∀ y0 y1 y2 y3 y4 y5 y6 y7 y8 y9 y10 y11 y12 y13 y14 y15 y16 y17 y18 y19 y20 y21, LeO (event_Check.j3 k y0 y1 y2 y3 y4 y5 y6 y7 y8 y9 y10 y11 y12 y13 y14 y15 y16 y17 y18 y19 y20 y21) (event_Check.j3 (k + 1) y0 y1 y2 y3 y4 y5 y6 y7 y8 y9 y10 y11 y12 y13 y14 y15 y16 y17 y18 y19 y20 y21)) ∧ (∀ y0 y1 y2 y3 y4 y5 y6 y7 y8 y9 y10 y11 y12 y13 y14 y15 y16 y17 y18 y19 y20 y21, LeO (event_Check.j4 k y0 y1 y2 y3 y4 y5 y6 y7 y8 y9 y10 y11 y12 y13 y14 y15 y16 y17 y18 y19 y20 y21) (event_Check.j4 (k + 1) y0 y1 y2 y3 y4 y5 y6 y7 y8 y9 y10 y11 y12 y13 y14 y15 y16 y17 y18 y19 y20 y21))
  | 0 => ⟨fun _ _ _ _ _ _ _ _ _ _ _ _ _ _ _ _ _ _ _ _ _ _ r h => by simp [event_Check.j0] at h, fun _ _ _ _ _ _ _ _ _ _ _ _ _ _ _ _ _ _ _ _ _ _ r h => by simp [event_Check.j1] at h, fun _ _ _ _ _ _ _ _ _ _ _ _ _ _ _ _ _ _ _ _ _ _ r h => by simp [event_Check.j2] at h, fun _ _ _ _ _ _ _ _ _ _ _ _ _ _ _ _ _ _ _ _ _ _ r h => by simp [event_Check.j3] at h, fun _ _ _ _ _ _ _ _ _ _ _ _ _ _ _ _ _ _ _ _ _ _ r h => by simp [event_Check.j4] at h⟩
  | k + 1 => by
    obtain ⟨ih0, ih1, ih2, ih3, ih4⟩ := event_Check.mono_l k
    refine ⟨?_, ?_, ?_, ?_, ?_⟩
    · intro y0 y1 y2 y3 y4 y5 y6 y7 y8 y9 y10 y11 y12 y13 y14 y15 y16 y17 y18 y19 y20 y21
      unfold event_Check.j0
      repeat' first
      | (with_reducible exact ih0 _ _ _ _ _ _ _ _ _ _ _ _ _ _ _ _ _ _ _ _ _ _)
      | (with_reducible exact ih1 _ _ _ _ _ _ _ _ _ _ _ _ _ _ _ _ _ _ _ _ _ _)
      | (with_reducible exact ih2 _ _ _ _ _ _ _ _ _ _ _ _ _ _ _ _ _ _ _ _ _ _)
      | (with_reducible exact ih3 _ _ _ _ _ _ _ _ _ _ _ _ _ _ _ _ _ _ _ _ _ _)
      | (with_reducible exact ih4 _ _ _ _ _ _ _ _ _ _ _ _ _ _ _ _ _ _ _ _ _ _)
      | (with_reducible exact event_named.mono _ _ _ _ _ _ _ _ _ _ _ _ _ _ _ _)
      | (with_reducible exact event_number.mono _ _ _ _ _ _ _ _ _ _ _ _ _ _ _ _)
      | (with_reducible exact event_shape.mono _ _)
      | (with_reducible exact spec_Config.mono _ _ _ _ _ _ _)
      | (with_reducible exact spec_Route.mono _ _ _ _ _)
      | (with_reducible exact LeO.refl _)
      | (with_reducible exact LeO.none _)
      | (with_reducible refine LeO.ite ?_ ?_)
      | (with_reducible refine LeO.bind ?_ (fun _ => ?_))
      | exact ih0 _ _ _ _ _ _ _ _ _ _ _ _ _ _ _ _ _ _ _ _ _ _
      | exact ih1 _ _ _ _ _ _ _ _ _ _ _ _ _ _ _ _ _ _ _ _ _ _
      | exact ih2 _ _ _ _ _ _ _ _ _ _ _ _ _ _ _ _ _ _ _ _ _ _
      | exact ih3 _ _ _ _ _ _ _ _ _ _ _ _ _ _ _ _ _ _ _ _ _ _
      | exact ih4 _ _ _ _ _ _ _ _ _ _ _ _ _ _ _ _ _ _ _ _ _ _
      | exact event_named.mono _ _ _ _ _ _ _ _ _ _ _ _ _ _ _ _
      | exact event_number.mono _ _ _ _ _ _ _ _ _ _ _ _ _ _ _ _
      | exact event_shape.mono _ _
      | exact spec_Config.mono _ _ _ _ _ _ _
      | exact spec_Route.mono _ _ _ _ _
      | exact LeO.none _
      | refine LeO.ite ?_ ?_
      | refine LeO.bind ?_ (fun _ => ?_)
    · intro y0 y1 y2 y3 y4 y5 y6 y7 y8 y9 y10 y11 y12 y13 y14 y15 y16 y17 y18 y19 y20 y21
      unfold event_Check.j1
      repeat' first
      | (with_reducible exact ih0 _ _ _ _ _ _ _ _ _ _ _ _ _ _ _ _ _ _ _ _ _ _)
      | (with_reducible exact ih1 _ _ _ _ _ _ _ _ _ _ _ _ _ _ _ _ _ _ _ _ _ _)
      | (with_reducible exact ih2 _ _ _ _ _ _ _ _ _ _ _ _ _ _ _ _ _ _ _ _ _ _)
      | (with_reducible exact ih3 _ _ _ _ _ _ _ _ _ _ _ _ _ _ _ _ _ _ _ _ _ _)
      | (with_reducible exact ih4 _ _ _ _ _ _ _ _ _ _ _ _ _ _ _ _ _ _ _ _ _ _)
      | (with_reducible exact event_named.mono _ _ _ _ _ _ _ _ _ _ _ _ _ _ _ _)
      | (with_reducible exact event_number.mono _ _ _ _ _ _ _ _ _ _ _ _ _ _ _ _)
      | (with_reducible exact event_shape.mono _ _)
      | (with_reducible exact spec_Config.mono _ _ _ _ _ _ _)
      | (with_reducible exact spec_Route.mono _ _ _ _ _)
      | (with_reducible exact LeO.refl _)
      | (with_reducible exact LeO.none _)
      | (with_reducible refine LeO.ite ?_ ?_)
      | (with_reducible refine LeO.bind ?_ (fun _ => ?_))
      | exact ih0 _ _ _ _ _ _ _ _ _ _ _ _ _ _ _ _ _ _ _ _ _ _
      | exact ih1 _ _ _ _ _ _ _ _ _ _ _ _ _ _ _ _ _ _ _ _ _ _
      | exact ih2 _ _ _ _ _ _ _ _ _ _ _ _ _ _ _ _ _ _ _ _ _ _
      | exact ih3 _ _ _ _ _ _ _ _ _ _ _ _ _ _ _ _ _ _ _ _ _ _
      | exact ih4 _ _ _ _ _ _ _ _ _ _ _ _ _ _ _ _ _ _ _ _ _ _
      | exact event_named.mono _ _ _ _ _ _ _ _ _ _ _ _ _ _ _ _
      | exact event_number.mono _ _ _ _ _ _ _ _ _ _ _ _ _ _ _ _
      | exact event_shape.mono _ _
      | exact spec_Config.mono _ _ _ _ _ _ _
      | exact spec_Route.mono _ _ _ _ _
      | exact LeO.none _
      | refine LeO.ite ?_ ?_
      | refine LeO.bind ?_ (fun _ => ?_)
    · intro y0 y1 y2 y3 y4 y5 y6 y7 y8 y9 y10 y11 y12 y13 y14 y15 y16 y17 y18 y19 y20 y21
      unfold event_Check.j2
      repeat' first
      | (with_reducible exact ih0 _ _ _ _ _ _ _ _ _ _ _ _ _ _ _ _ _ _ _ _ _ _)
      | (with_reducible exact ih1 _ _ _ _ _ _ _ _ _ _ _ _ _ _ _ _ _ _ _ _ _ _)
      | (with_reducible exact ih2 _ _ _ _ _ _ _ _ _ _ _ _ _ _ _ _ _ _ _ _ _ _)
      | (with_reducible exact ih3 _ _ _ _ _ _ _ _ _ _ _ _ _ _ _ _ _ _ _ _ _ _)
      | (with_reducible exact ih4 _ _ _ _ _ _ _ _ _ _ _ _ _ _ _ _ _ _ _ _ _ _)
      | (with_reducible exact event_named.mono _ _ _ _ _ _ _ _ _ _ _ _ _ _ _ _)
      | (with_reducible exact event_number.mono _ _ _ _ _ _ _ _ _ _ _ _ _ _ _ _)
      | (with_reducible exact event_shape.mono _ _)
      | (with_reducible exact spec_Config.mono _ _ _ _ _ _ _)
      | (with_reducible exact spec_Route.mono _ _ _ _ _)
      | (with_reducible exact LeO.refl _)
      | (with_reducible exact LeO.none _)
      | (with_reducible refine LeO.ite ?_ ?_)
      | (with_reducible refine LeO.bind ?_ (fun _ => ?_))
      | exact ih0 _ _ _ _ _ _ _ _ _ _ _ _ _ _ _ _ _ _ _ _ _ _
      | exact ih1 _ _ _ _ _ _ _ _ _ _ _ _ _ _ _ _ _ _ _ _ _ _
      | exact ih2 _ _ _ _ _ _ _ _ _ _ _ _ _ _ _ _ _ _ _ _ _ _
      | exact ih3 _ _ _ _ _ _ _ _ _ _ _ _ _ _ _ _ _ _ _ _ _ _
      | exact ih4 _ _ _ _ _ _ _ _ _ _ _ _ _ _ _ _ _ _ _ _ _ _
      | exact event_named.mono _ _ _ _ _ _ _ _ _ _ _ _ _ _ _ _
      | exact event_number.mono _ _ _ _ _ _ _ _ _ _ _ _ _ _ _ _
      | exact event_shape.mono _ _
      | exact spec_Config.mono _ _ _ _ _ _ _
      | exact spec_Route.mono _ _ _ _ _
      | exact LeO.none _
      | refine LeO.ite ?_ ?_
      | refine LeO.bind ?_ (fun _ => ?_)
    · intro y0 y1 y2 y3 y4 y5 y6 y7 y8 y9 y10 y11 y12 y13 y14 y15 y16 y17 y18 y19 y20 y21
      unfold event_Check.j3
      repeat' first
      | (with_reducible exact ih0 _ _ _ _ _ _ _ _ _ _ _ _ _ _ _ _ _ _ _ _ _ _)
      | (with_reducible exact ih1 _ _ _ _ _ _ _ _ _ _ _ _ _ _ _ _ _ _ _ _ _ _)
      | (with_reducible exact ih2 _ _ _ _ _ _ _ _ _ _ _ _ _ _ _ _ _ _ _ _ _ _)
      | (with_reducible exact ih3 _ _ _ _ _ _ _ _ _ _ _ _ _ _ _ _ _ _ _ _ _ _)
      | (with_reducible exact ih4 _ _ _ _ _ _ _ _ _ _ _ _ _ _ _ _ _ _ _ _ _ _)
      | (with_reducible exact event_named.mono _ _ _ _ _ _ _ _ _ _ _ _ _ _ _ _)
      | (with_reducible exact event_number.mono _ _ _ _ _ _ _ _ _ _ _ _ _ _ _ _)
      | (with_reducible exact event_shape.mono _ _)
      | (with_reducible exact spec_Config.mono _ _ _ _ _ _ _)
      | (with_reducible exact spec_Route.mono _ _ _ _ _)
      | (with_reducible exact LeO.refl _)
      | (with_reducible exact LeO.none _)
      | (with_reducible refine LeO.ite ?_ ?_)
      | (with_reducible refine LeO.bind ?_ (fun _ => ?_))
      | exact ih0 _ _ _ _ _ _ _ _ _ _ _ _ _ _ _ _ _ _ _ _ _ _
      | exact ih1 _ _ _ _ _ _ _ _ _ _ _ _ _ _ _ _ _ _ _ _ _ _
      | exact ih2 _ _ _ _ _ _ _ _ _ _ _ _ _ _ _ _ _ _ _ _ _ _
      | exact ih3 _ _ _ _ _ _ _ _ _ _ _ _ _ _ _ _ _ _ _ _ _ _
      | exact ih4 _ _ _ _ _ _ _ _ _ _ _ _ _ _ _ _ _ _ _ _ _ _
      | exact event_named.mono _ _ _ _ _ _ _ _ _ _ _ _ _ _ _ _
      | exact event_number.mono _ _ _ _ _ _ _ _ _ _ _ _ _ _ _ _
      | exact event_shape.mono _ _
      | exact spec_Config.mono _ _ _ _ _ _ _
      | exact spec_Route.mono _ _ _ _ _
      | exact LeO.none _
      | refine LeO.ite ?_ ?_
      | refine LeO.bind ?_ (fun _ => ?_)
    · intro y0 y1 y2 y3 y4 y5 y6 y7 y8 y9 y10 y11 y12 y13 y14 y15 y16 y17 y18 y19 y20 y21
      unfold event_Check.j4
      repeat' first
      | (with_reducible exact ih0 _ _ _ _ _ _ _ _ _ _ _ _ _ _ _ _ _ _ _ _ _ _)
      | (with_reducible exact ih1 _ _ _ _ _ _ _ _ _ _ _ _ _ _ _ _ _ _ _ _ _ _)
      | (with_reducible exact ih2 _ _ _ _ _ _ _ _ _ _ _ _ _ _ _ _ _ _ _ _ _ _)
      | (with_reducible exact ih3 _ _ _ _ _ _ _ _ _ _ _ _ _ _ _ _ _ _ _ _ _ _)
      | (with_reducible exact ih4 _ _ _ _ _ _ _ _ _ _ _ _ _ _ _ _ _ _ _ _ _ _)
      | (with_reducible exact event_named.mono _ _ _ _ _ _ _ _ _ _ _ _ _ _ _ _)
      | (with_reducible exact event_number.mono _ _ _ _ _ _ _ _ _ _ _ _ _ _ _ _)
      | (with_reducible exact event_shape.mono _ _)
      | (with_reducible exact spec_Config.mono _ _ _ _ _ _ _)
      | (with_reducible exact spec_Route.mono _ _ _ _ _)
      | (with_reducible exact LeO.refl _)
      | (with_reducible exact LeO.none _)
      | (with_reducible refine LeO.ite ?_ ?_)
      | (with_reducible refine LeO.bind ?_ (fun _ => ?_))
      | exact ih0 _ _ _ _ _ _ _ _ _ _ _ _ _ _ _ _ _ _ _ _ _ _
      | exact ih1 _ _ _ _ _ _ _ _ _ _ _ _ _ _ _ _ _ _ _ _ _ _
      | exact ih2 _ _ _ _ _ _ _ _ _ _ _ _ _ _ _ _ _ _ _ _ _ _
      | exact ih3 _ _ _ _ _ _ _ _ _ _ _ _ _ _ _ _ _ _ _ _ _ _
      | exact ih4 _ _ _ _ _ _ _ _ _ _ _ _ _ _ _ _ _ _ _ _ _ _
      | exact event_named.mono _ _ _ _ _ _ _ _ _ _ _ _ _ _ _ _
      | exact event_number.mono _ _ _ _ _ _ _ _ _ _ _ _ _ _ _ _
      | exact event_shape.mono _ _
      | exact spec_Config.mono _ _ _ _ _ _ _
      | exact spec_Route.mono _ _ _ _ _
      | exact LeO.none _
      | refine LeO.ite ?_ ?_
      | refine LeO.bind ?_ (fun _ => ?_)
theorem event_Check.mono : ∀ a0 a1 a2 a3 a4 a5 a6 a7 a8 a9 a10 a11 a12 a13 a14 k, LeO (event_Check.f k a0 a1 a2 a3 a4 a5 a6 a7 a8 a9 a10 a11 a12 a13 a14) (event_Check.f (k + 1) a0 a1 a2 a3 a4 a5 a6 a7 a8 a9 a10 a11 a12 a13 a14) := by
  intro a0 a1 a2 a3 a4 a5 a6 a7 a8 a9 a10 a11 a12 a13 a14 k
  obtain ⟨ih0, ih1, ih2, ih3, ih4⟩ := event_Check.mono_l k
  unfold event_Check.f
  repeat' first
      | (with_reducible exact ih0 _ _ _ _ _ _ _ _ _ _ _ _ _ _ _ _ _ _ _ _ _ _)
      | (with_reducible exact ih1 _ _ _ _ _ _ _ _ _ _ _ _ _ _ _ _ _ _ _ _ _ _)
      | (with_reducible exact ih2 _ _ _ _ _ _ _ _ _ _ _ _ _ _ _ _ _ _ _ _ _ _)
      | (with_reducible exact ih3 _ _ _ _ _ _ _ _ _ _ _ _ _ _ _ _ _ _ _ _ _ _)
      | (with_reducible exact ih4 _ _ _ _ _ _ _ _ _ _ _ _ _ _ _ _ _ _ _ _ _ _)
      | (with_reducible exact event_named.mono _ _ _ _ _ _ _ _ _ _ _ _ _ _ _ _)
      | (with_reducible exact event_number.mono _ _ _ _ _ _ _ _ _ _ _ _ _ _ _ _)
      | (with_reducible exact event_shape.mono _ _)
      | (with_reducible exact spec_Config.mono _ _ _ _ _ _ _)
      | (with_reducible exact spec_Route.mono _ _ _ _ _)
      | (with_reducible exact LeO.refl _)
      | (with_reducible exact LeO.none _)
      | (with_reducible refine LeO.ite ?_ ?_)
      | (with_reducible refine LeO.bind ?_ (fun _ => ?_))
      | exact ih0 _ _ _ _ _ _ _ _ _ _ _ _ _ _ _ _ _ _ _ _ _ _
      | exact ih1 _ _ _ _ _ _ _ _ _ _ _ _ _ _ _ _ _ _ _ _ _ _
      | exact ih2 _ _ _ _ _ _ _ _ _ _ _ _ _ _ _ _ _ _ _ _ _ _
      | exact ih3 _ _ _ _ _ _ _ _ _ _ _ _ _ _ _ _ _ _ _ _ _ _
      | exact ih4 _ _ _ _ _ _ _ _ _ _ _ _ _ _ _ _ _ _ _ _ _ _
      | exact event_named.mono _ _ _ _ _ _ _ _ _ _ _ _ _ _ _ _
      | exact event_number.mono _ _ _ _ _ _ _ _ _ _ _ _ _ _ _ _
      | exact event_shape.mono _ _
      | exact spec_Config.mono _ _ _ _ _ _ _
      | exact spec_Route.mono _ _ _ _ _
      | exact LeO.none _
      | refine LeO.ite ?_ ?_
      | refine LeO.bind ?_ (fun _ => ?_)
set_option maxHeartbeats 8000000 in
set_option maxRecDepth 100000 in
theorem event_Check.calls (k : Nat) (a0_0 : Int) (a0_1 : ByteArray) (a0_2 : ByteArray) (a0_3 : Int) (a0_4 : Int) (a0_5 : ByteArray) (a0_6 : Int) (a0_7 : Int) (a0_8 : Int) (a0_9 : Int) (a0_10 : Int) (a0_11 : ByteArray) (a0_12 : ByteArray) (A0_13 : Option Addr) (c0_13 : Nat) (l0_13 : List (S39)) (a0_14 : Int) (r : Int) (w : World) (hLd_ : Aside0 (LaidW w)) (hr0_13 : Kd.C k39 w A0_13 l0_13.length l0_13) (hc0_13 : l0_13.length ≤ c0_13) (h : event_Check.f k a0_0 a0_1 a0_2 a0_3 a0_4 a0_5 a0_6 a0_7 a0_8 a0_9 a0_10 a0_11 a0_12 l0_13 a0_14 = some r) :
    Calls Tryd.prog 15 #[.agg #[.int .i64 a0_0, .string a0_1, .string a0_2, .int .i64 a0_3, .int .i64 a0_4, .string a0_5, .int .i64 a0_6, .int .i64 a0_7, .int .i64 a0_8, .int .i64 a0_9, .int .i64 a0_10, .string a0_11, .string a0_12, .slice A0_13 l0_13.length c0_13, .int .i64 a0_14]] w fun e w' => e = .returned (.int .i64 r) ∧ Below w.heap.size w w' := by
  have hu28 := Tryd.underlying28
  have hu66 := Tryd.underlying66
  have hu23 := Tryd.underlying23
  have hu26 := Tryd.underlying26
  have HR0_13 := Aside0.mk hr0_13
  have HC0_13 := Aside0.mk hc0_13
  clear hr0_13 hc0_13
  have HB := Aside0.mk (Below.refl w.heap.size w)
  have H : ((event_shape.f k a0_0).bind fun bt174 => (if bt174.2.2.2.2.2.2 = true then ((event_none_int.f bt174.1 a0_3).bind fun t182 => (if t182 = true then ((event_none_string.f bt174.2.1 a0_1).bind fun t183 => (if t183 = true then ((event_none_string.f bt174.2.2.1 a0_2).bind fun t184 => (if t184 = true then ((event_none_int.f bt174.2.2.2.1 a0_4).bind fun t185 => (if t185 = true then ((api_Config.f bt174.2.2.2.2.1 a0_5 a0_6 a0_7 a0_8 a0_9 a0_10).bind fun t186 => (if t186 = true then (if bt174.2.2.2.2.2.1 = true then (event_Check.j0 k false a0_0 a0_1 a0_2 a0_3 a0_4 a0_5 a0_6 a0_7 a0_8 a0_9 a0_10 a0_11 a0_12 l0_13 a0_14 bt174.1 bt174.2.1 bt174.2.2.1 bt174.2.2.2.1 bt174.2.2.2.2.1 bt174.2.2.2.2.2.1) else ((event_bare.f a0_11 a0_12 l0_13 a0_14).bind fun t187 => (event_Check.j0 k (!t187) a0_0 a0_1 a0_2 a0_3 a0_4 a0_5 a0_6 a0_7 a0_8 a0_9 a0_10 a0_11 a0_12 l0_13 a0_14 bt174.1 bt174.2.1 bt174.2.2.1 bt174.2.2.2.1 bt174.2.2.2.2.1 bt174.2.2.2.2.2.1))) else (event_Check.j0 k true a0_0 a0_1 a0_2 a0_3 a0_4 a0_5 a0_6 a0_7 a0_8 a0_9 a0_10 a0_11 a0_12 l0_13 a0_14 bt174.1 bt174.2.1 bt174.2.2.1 bt174.2.2.2.1 bt174.2.2.2.2.1 bt174.2.2.2.2.2.1))) else (event_Check.j0 k true a0_0 a0_1 a0_2 a0_3 a0_4 a0_5 a0_6 a0_7 a0_8 a0_9 a0_10 a0_11 a0_12 l0_13 a0_14 bt174.1 bt174.2.1 bt174.2.2.1 bt174.2.2.2.1 bt174.2.2.2.2.1 bt174.2.2.2.2.2.1))) else (event_Check.j0 k true a0_0 a0_1 a0_2 a0_3 a0_4 a0_5 a0_6 a0_7 a0_8 a0_9 a0_10 a0_11 a0_12 l0_13 a0_14 bt174.1 bt174.2.1 bt174.2.2.1 bt174.2.2.2.1 bt174.2.2.2.2.1 bt174.2.2.2.2.2.1))) else (event_Check.j0 k true a0_0 a0_1 a0_2 a0_3 a0_4 a0_5 a0_6 a0_7 a0_8 a0_9 a0_10 a0_11 a0_12 l0_13 a0_14 bt174.1 bt174.2.1 bt174.2.2.1 bt174.2.2.2.1 bt174.2.2.2.2.1 bt174.2.2.2.2.2.1))) else (event_Check.j0 k true a0_0 a0_1 a0_2 a0_3 a0_4 a0_5 a0_6 a0_7 a0_8 a0_9 a0_10 a0_11 a0_12 l0_13 a0_14 bt174.1 bt174.2.1 bt174.2.2.1 bt174.2.2.2.1 bt174.2.2.2.2.1 bt174.2.2.2.2.2.1))) else (some 12))) = some r := h
  clear h
  replace H := Option.bind_eq_some_iff.mp H
  obtain ⟨⟨t174, t175, t176, t177, t178, t179, t180⟩, A20, H⟩ := H
  replace H : (if t180 = true then ((event_none_int.f t174 a0_3).bind fun t182 => (if t182 = true then ((event_none_string.f t175 a0_1).bind fun t183 => (if t183 = true then ((event_none_string.f t176 a0_2).bind fun t184 => (if t184 = true then ((event_none_int.f t177 a0_4).bind fun t185 => (if t185 = true then ((api_Config.f t178 a0_5 a0_6 a0_7 a0_8 a0_9 a0_10).bind fun t186 => (if t186 = true then (if t179 = true then (event_Check.j0 k false a0_0 a0_1 a0_2 a0_3 a0_4 a0_5 a0_6 a0_7 a0_8 a0_9 a0_10 a0_11 a0_12 l0_13 a0_14 t174 t175 t176 t177 t178 t179) else ((event_bare.f a0_11 a0_12 l0_13 a0_14).bind fun t187 => (event_Check.j0 k (!t187) a0_0 a0_1 a0_2 a0_3 a0_4 a0_5 a0_6 a0_7 a0_8 a0_9 a0_10 a0_11 a0_12 l0_13 a0_14 t174 t175 t176 t177 t178 t179))) else (event_Check.j0 k true a0_0 a0_1 a0_2 a0_3 a0_4 a0_5 a0_6 a0_7 a0_8 a0_9 a0_10 a0_11 a0_12 l0_13 a0_14 t174 t175 t176 t177 t178 t179))) else (event_Check.j0 k true a0_0 a0_1 a0_2 a0_3 a0_4 a0_5 a0_6 a0_7 a0_8 a0_9 a0_10 a0_11 a0_12 l0_13 a0_14 t174 t175 t176 t177 t178 t179))) else (event_Check.j0 k true a0_0 a0_1 a0_2 a0_3 a0_4 a0_5 a0_6 a0_7 a0_8 a0_9 a0_10 a0_11 a0_12 l0_13 a0_14 t174 t175 t176 t177 t178 t179))) else (event_Check.j0 k true a0_0 a0_1 a0_2 a0_3 a0_4 a0_5 a0_6 a0_7 a0_8 a0_9 a0_10 a0_11 a0_12 l0_13 a0_14 t174 t175 t176 t177 t178 t179))) else (event_Check.j0 k true a0_0 a0_1 a0_2 a0_3 a0_4 a0_5 a0_6 a0_7 a0_8 a0_9 a0_10 a0_11 a0_12 l0_13 a0_14 t174 t175 t176 t177 t178 t179))) else (some 12)) = some r := H
  have A2 := Aside0.mk A20
  clear A20
  by_cases c3 : t180 = true
  · subst c3
    have H1 : ((event_none_int.f t174 a0_3).bind fun t182 => (if t182 = true then ((event_none_string.f t175 a0_1).bind fun t183 => (if t183 = true then ((event_none_string.f t176 a0_2).bind fun t184 => (if t184 = true then ((event_none_int.f t177 a0_4).bind fun t185 => (if t185 = true then ((api_Config.f t178 a0_5 a0_6 a0_7 a0_8 a0_9 a0_10).bind fun t186 => (if t186 = true then (if t179 = true then (event_Check.j0 k false a0_0 a0_1 a0_2 a0_3 a0_4 a0_5 a0_6 a0_7 a0_8 a0_9 a0_10 a0_11 a0_12 l0_13 a0_14 t174 t175 t176 t177 t178 t179) else ((event_bare.f a0_11 a0_12 l0_13 a0_14).bind fun t187 => (event_Check.j0 k (!t187) a0_0 a0_1 a0_2 a0_3 a0_4 a0_5 a0_6 a0_7 a0_8 a0_9 a0_10 a0_11 a0_12 l0_13 a0_14 t174 t175 t176 t177 t178 t179))) else (event_Check.j0 k true a0_0 a0_1 a0_2 a0_3 a0_4 a0_5 a0_6 a0_7 a0_8 a0_9 a0_10 a0_11 a0_12 l0_13 a0_14 t174 t175 t176 t177 t178 t179))) else (event_Check.j0 k true a0_0 a0_1 a0_2 a0_3 a0_4 a0_5 a0_6 a0_7 a0_8 a0_9 a0_10 a0_11 a0_12 l0_13 a0_14 t174 t175 t176 t177 t178 t179))) else (event_Check.j0 k true a0_0 a0_1 a0_2 a0_3 a0_4 a0_5 a0_6 a0_7 a0_8 a0_9 a0_10 a0_11 a0_12 l0_13 a0_14 t174 t175 t176 t177 t178 t179))) else (event_Check.j0 k true a0_0 a0_1 a0_2 a0_3 a0_4 a0_5 a0_6 a0_7 a0_8 a0_9 a0_10 a0_11 a0_12 l0_13 a0_14 t174 t175 t176 t177 t178 t179))) else (event_Check.j0 k true a0_0 a0_1 a0_2 a0_3 a0_4 a0_5 a0_6 a0_7 a0_8 a0_9 a0_10 a0_11 a0_12 l0_13 a0_14 t174 t175 t176 t177 t178 t179))) = some r := by rw [if_pos rfl] at H; exact H
    clear H
    have H := H1
    clear H1
    have HC4 := Aside0.mk H
    clear H
    go_enter Tryd.func15, Tryd.ntmps15
    go_upto_region 4 with (first | ((with_reducible refine gate_dst (N := 1) rfl ?_); refine box_event ?hg (N := 1) ?hd (cs := #[.int .i64 a0_0, .string a0_1, .string a0_2, .int .i64 a0_3, .int .i64 a0_4, .string a0_5, .int .i64 a0_6, .int .i64 a0_7, .int .i64 a0_8, .int .i64 a0_9, .int .i64 a0_10, .string a0_11, .string a0_12, .slice A0_13 l0_13.length c0_13, .int .i64 a0_14]) (t := 28) ?hr ?_; (case hd => rfl); (case hg => rfl); (case hr => first | (go_simp; done) | (go_simp; rfl)); intro gb173 hg w5 hbox hb; have n0_ := Aside0.mk (below_step (by repeat (first | (with_reducible first | exact HB.out | apply below_alloc | apply pw_below_drewN | apply below_drew1) | exact HB.out)) hb); have n1_ := Aside0.mk (hbox); have n2_ := Aside0.mk ((by rw [hg]; exact (below_size (by repeat (first | (with_reducible first | exact HB.out | apply below_alloc | apply pw_below_drewN | apply below_drew1) | exact HB.out))) : w.heap.size ≤ gb173)); have n3_ := Aside0.mk ((by rw [hg]; exact (below_size (by repeat (first | (with_reducible first | exact HB.out | apply below_alloc | apply pw_below_drewN | apply below_drew1) | exact HB.out))) : w.heap.size ≤ gb173)); clear HB; have HB := n0_; have BK173 := n1_; have GW173 := n2_; have GE173 := n3_; clear n0_ n1_ n2_ n3_; clear hb hbox hg; have hcz6_0 : w5.cell? ⟨gb173, 0, none⟩ = some (.int .i64 a0_0) := bc BK173 0; have hcz6_1 : w5.cell? ⟨gb173, 1, none⟩ = some (.string a0_1) := bc BK173 1; have hcz6_2 : w5.cell? ⟨gb173, 2, none⟩ = some (.string a0_2) := bc BK173 2; have hcz6_3 : w5.cell? ⟨gb173, 3, none⟩ = some (.int .i64 a0_3) := bc BK173 3; have hcz6_4 : w5.cell? ⟨gb173, 4, none⟩ = some (.int .i64 a0_4) := bc BK173 4; have hcz6_5 : w5.cell? ⟨gb173, 5, none⟩ = some (.string a0_5) := bc BK173 5; have hcz6_6 : w5.cell? ⟨gb173, 6, none⟩ = some (.int .i64 a0_6) := bc BK173 6; have hcz6_7 : w5.cell? ⟨gb173, 7, none⟩ = some (.int .i64 a0_7) := bc BK173 7; have hcz6_8 : w5.cell? ⟨gb173, 8, none⟩ = some (.int .i64 a0_8) := bc BK173 8; have hcz6_9 : w5.cell? ⟨gb173, 9, none⟩ = some (.int .i64 a0_9) := bc BK173 9; have hcz6_10 : w5.cell? ⟨gb173, 10, none⟩ = some (.int .i64 a0_10) := bc BK173 10; have hcz6_11 : w5.cell? ⟨gb173, 11, none⟩ = some (.string a0_11) := bc BK173 11; have hcz6_12 : w5.cell? ⟨gb173, 12, none⟩ = some (.string a0_12) := bc BK173 12; have hcz6_13 : w5.cell? ⟨gb173, 13, none⟩ = some (.slice A0_13 l0_13.length c0_13) := bc BK173 13; have hcz6_14 : w5.cell? ⟨gb173, 14, none⟩ = some (.int .i64 a0_14) := bc BK173 14; have hfz6_0 := blk_frozen BK173.out 0; have hfz6_1 := blk_frozen BK173.out 1; have hfz6_2 := blk_frozen BK173.out 2; have hfz6_3 := blk_frozen BK173.out 3; have hfz6_4 := blk_frozen BK173.out 4; have hfz6_5 := blk_frozen BK173.out 5; have hfz6_6 := blk_frozen BK173.out 6; have hfz6_7 := blk_frozen BK173.out 7; have hfz6_8 := blk_frozen BK173.out 8; have hfz6_9 := blk_frozen BK173.out 9; have hfz6_10 := blk_frozen BK173.out 10; have hfz6_11 := blk_frozen BK173.out 11; have hfz6_12 := blk_frozen BK173.out 12; have hfz6_13 := blk_frozen BK173.out 13; have hfz6_14 := blk_frozen BK173.out 14) | ((with_reducible refine gate_callee (f := 30) rfl ?_); refine goesL_ (some 8) rfl rfl Tryd.func30 (by kernel_rfl) rfl #[.int .i64 a0_0] rfl (by (try simp only [List.map_toArray, List.map_cons, List.map_nil]); first | done | rfl | (simp only [List.length_drop, List.length_take]; rfl)) ?_; (with_reducible refine (event_shape.calls k a0_0 t174 t175 t176 t177 t178 t179 true _ A2.out).mono ?_); rintro e w7 ⟨rfl, hb⟩; refine ⟨_, rfl, ?_⟩; have n0_ := Aside0.mk (blk_below (g := gb173) (pk BK173) hb); have n1_ := Aside0.mk (below_step (by repeat (first | (with_reducible first | exact HB.out | apply below_alloc | apply pw_below_drewN | apply below_drew1 | refine below_set ?_ GE173.out) | exact HB.out)) hb); clear BK173; clear HB; have BK173 := n0_; have HB := n1_; clear n0_ n1_; (try clear hb); (try clear hb2); (try clear hk); (try clear hi)) | ((with_reducible refine gate_dst (N := 3) rfl ?_); refine box_event ?hg (N := 3) ?hd (cs := #[.bool false, .bool false, .bool false, .bool false, .bool false, .bool false]) (t := 66) ?hr ?_; (case hd => rfl); (case hg => rfl); (case hr => first | (go_simp; done) | (go_simp; rfl)); intro gb181 hg w8 hbox hb; have n0_ := Aside0.mk (blk_below (g := gb173) (pk BK173) hb); have n1_ := Aside0.mk (below_step (by repeat (first | (with_reducible first | exact HB.out | apply below_alloc | apply pw_below_drewN | apply below_drew1 | refine below_set ?_ GE173.out) | exact HB.out)) hb); have n2_ := Aside0.mk (hbox); have n3_ := Aside0.mk ((by rw [hg]; exact (below_size (by repeat (first | (with_reducible first | exact HB.out | apply below_alloc | apply pw_below_drewN | apply below_drew1 | refine below_set ?_ GE173.out) | exact HB.out))) : w.heap.size ≤ gb181)); have n4_ := Aside0.mk ((by rw [hg]; exact (below_size (by repeat (first | (with_reducible first | exact HB.out | apply below_alloc | apply pw_below_drewN | apply below_drew1 | refine below_set ?_ GE173.out) | exact HB.out))) : w.heap.size ≤ gb181)); have n5_ := Aside0.mk ((ne_lt hg (pk BK173) : gb173 ≠ gb181)); have n6_ := Aside0.mk ((ne_gt hg (pk BK173) : gb181 ≠ gb173)); clear BK173; clear HB; have BK173 := n0_; have HB := n1_; have BK181 := n2_; have GW181 := n3_; have GE181 := n4_; have NB173_181 := n5_; have NB181_173 := n6_; clear n0_ n1_ n2_ n3_ n4_ n5_ n6_; clear hb hbox hg; have hnb9 := NB181_173.out; have hnc9 := NB173_181.out; have hcz10_0 : w8.cell? ⟨gb181, 0, none⟩ = some (.bool false) := bc BK181 0; have hcz10_1 : w8.cell? ⟨gb181, 1, none⟩ = some (.bool false) := bc BK181 1; have hcz10_2 : w8.cell? ⟨gb181, 2, none⟩ = some (.bool false) := bc BK181 2; have hcz10_3 : w8.cell? ⟨gb181, 3, none⟩ = some (.bool false) := bc BK181 3; have hcz10_4 : w8.cell? ⟨gb181, 4, none⟩ = some (.bool false) := bc BK181 4; have hcz10_5 : w8.cell? ⟨gb181, 5, none⟩ = some (.bool false) := bc BK181 5; have hfz10_0 := blk_frozen BK181.out 0; have hfz10_1 := blk_frozen BK181.out 1; have hfz10_2 := blk_frozen BK181.out 2; have hfz10_3 := blk_frozen BK181.out 3; have hfz10_4 := blk_frozen BK181.out 4; have hfz10_5 := blk_frozen BK181.out 5))
    (try simp only [Act.put, List.setIfInBounds_toArray, List.set_cons_zero, List.set_cons_succ])
    go_cut [61] (fun v61 wc => ∃ (kq : Nat) (x61_3 : Bool), v61 = .bool x61_3 ∧ Aside0 (event_Check.j0 kq x61_3 a0_0 a0_1 a0_2 a0_3 a0_4 a0_5 a0_6 a0_7 a0_8 a0_9 a0_10 a0_11 a0_12 l0_13 a0_14 t174 t175 t176 t177 t178 t179 = some r) ∧ Aside0 (kq ≤ k) ∧ Aside0 (wc.heap[gb173]? = some (.cells #[.int .i64 a0_0, .string a0_1, .string a0_2, .int .i64 a0_3, .int .i64 a0_4, .string a0_5, .int .i64 a0_6, .int .i64 a0_7, .int .i64 a0_8, .int .i64 a0_9, .int .i64 a0_10, .string a0_11, .string a0_12, (.slice A0_13 l0_13.length c0_13), .int .i64 a0_14] 28 (0, 0))) ∧ Aside0 (wc.heap[gb181]? = some (.cells #[.bool t174, .bool t175, .bool t176, .bool t177, .bool t178, .bool t179] 66 (0, 0))) ∧ Aside0 (Below w.heap.size w wc))
    case first =>
      have H := HC4.out
      clear HC4
      replace H := Option.bind_eq_some_iff.mp H
      obtain ⟨t182, A110, H⟩ := H
      replace H : (if t182 = true then ((event_none_string.f t175 a0_1).bind fun t183 => (if t183 = true then ((event_none_string.f t176 a0_2).bind fun t184 => (if t184 = true then ((event_none_int.f t177 a0_4).bind fun t185 => (if t185 = true then ((api_Config.f t178 a0_5 a0_6 a0_7 a0_8 a0_9 a0_10).bind fun t186 => (if t186 = true then (if t179 = true then (event_Check.j0 k false a0_0 a0_1 a0_2 a0_3 a0_4 a0_5 a0_6 a0_7 a0_8 a0_9 a0_10 a0_11 a0_12 l0_13 a0_14 t174 t175 t176 t177 t178 t179) else ((event_bare.f a0_11 a0_12 l0_13 a0_14).bind fun t187 => (event_Check.j0 k (!t187) a0_0 a0_1 a0_2 a0_3 a0_4 a0_5 a0_6 a0_7 a0_8 a0_9 a0_10 a0_11 a0_12 l0_13 a0_14 t174 t175 t176 t177 t178 t179))) else (event_Check.j0 k true a0_0 a0_1 a0_2 a0_3 a0_4 a0_5 a0_6 a0_7 a0_8 a0_9 a0_10 a0_11 a0_12 l0_13 a0_14 t174 t175 t176 t177 t178 t179))) else (event_Check.j0 k true a0_0 a0_1 a0_2 a0_3 a0_4 a0_5 a0_6 a0_7 a0_8 a0_9 a0_10 a0_11 a0_12 l0_13 a0_14 t174 t175 t176 t177 t178 t179))) else (event_Check.j0 k true a0_0 a0_1 a0_2 a0_3 a0_4 a0_5 a0_6 a0_7 a0_8 a0_9 a0_10 a0_11 a0_12 l0_13 a0_14 t174 t175 t176 t177 t178 t179))) else (event_Check.j0 k true a0_0 a0_1 a0_2 a0_3 a0_4 a0_5 a0_6 a0_7 a0_8 a0_9 a0_10 a0_11 a0_12 l0_13 a0_14 t174 t175 t176 t177 t178 t179))) else (event_Check.j0 k true a0_0 a0_1 a0_2 a0_3 a0_4 a0_5 a0_6 a0_7 a0_8 a0_9 a0_10 a0_11 a0_12 l0_13 a0_14 t174 t175 t176 t177 t178 t179)) = some r := H
      have A11 := Aside0.mk A110
      clear A110
      by_cases c12 : t182 = true
      · subst c12
        have H1 : ((event_none_string.f t175 a0_1).bind fun t183 => (if t183 = true then ((event_none_string.f t176 a0_2).bind fun t184 => (if t184 = true then ((event_none_int.f t177 a0_4).bind fun t185 => (if t185 = true then ((api_Config.f t178 a0_5 a0_6 a0_7 a0_8 a0_9 a0_10).bind fun t186 => (if t186 = true then (if t179 = true then (event_Check.j0 k false a0_0 a0_1 a0_2 a0_3 a0_4 a0_5 a0_6 a0_7 a0_8 a0_9 a0_10 a0_11 a0_12 l0_13 a0_14 t174 t175 t176 t177 t178 t179) else ((event_bare.f a0_11 a0_12 l0_13 a0_14).bind fun t187 => (event_Check.j0 k (!t187) a0_0 a0_1 a0_2 a0_3 a0_4 a0_5 a0_6 a0_7 a0_8 a0_9 a0_10 a0_11 a0_12 l0_13 a0_14 t174 t175 t176 t177 t178 t179))) else (event_Check.j0 k true a0_0 a0_1 a0_2 a0_3 a0_4 a0_5 a0_6 a0_7 a0_8 a0_9 a0_10 a0_11 a0_12 l0_13 a0_14 t174 t175 t176 t177 t178 t179))) else (event_Check.j0 k true a0_0 a0_1 a0_2 a0_3 a0_4 a0_5 a0_6 a0_7 a0_8 a0_9 a0_10 a0_11 a0_12 l0_13 a0_14 t174 t175 t176 t177 t178 t179))) else (event_Check.j0 k true a0_0 a0_1 a0_2 a0_3 a0_4 a0_5 a0_6 a0_7 a0_8 a0_9 a0_10 a0_11 a0_12 l0_13 a0_14 t174 t175 t176 t177 t178 t179))) else (event_Check.j0 k true a0_0 a0_1 a0_2 a0_3 a0_4 a0_5 a0_6 a0_7 a0_8 a0_9 a0_10 a0_11 a0_12 l0_13 a0_14 t174 t175 t176 t177 t178 t179))) = some r := by rw [if_pos rfl] at H; exact H
        clear H
        have H := H1
        clear H1
        replace H := Option.bind_eq_some_iff.mp H
        obtain ⟨t183, A130, H⟩ := H
        replace H : (if t183 = true then ((event_none_string.f t176 a0_2).bind fun t184 => (if t184 = true then ((event_none_int.f t177 a0_4).bind fun t185 => (if t185 = true then ((api_Config.f t178 a0_5 a0_6 a0_7 a0_8 a0_9 a0_10).bind fun t186 => (if t186 = true then (if t179 = true then (event_Check.j0 k false a0_0 a0_1 a0_2 a0_3 a0_4 a0_5 a0_6 a0_7 a0_8 a0_9 a0_10 a0_11 a0_12 l0_13 a0_14 t174 t175 t176 t177 t178 t179) else ((event_bare.f a0_11 a0_12 l0_13 a0_14).bind fun t187 => (event_Check.j0 k (!t187) a0_0 a0_1 a0_2 a0_3 a0_4 a0_5 a0_6 a0_7 a0_8 a0_9 a0_10 a0_11 a0_12 l0_13 a0_14 t174 t175 t176 t177 t178 t179))) else (event_Check.j0 k true a0_0 a0_1 a0_2 a0_3 a0_4 a0_5 a0_6 a0_7 a0_8 a0_9 a0_10 a0_11 a0_12 l0_13 a0_14 t174 t175 t176 t177 t178 t179))) else (event_Check.j0 k true a0_0 a0_1 a0_2 a0_3 a0_4 a0_5 a0_6 a0_7 a0_8 a0_9 a0_10 a0_11 a0_12 l0_13 a0_14 t174 t175 t176 t177 t178 t179))) else (event_Check.j0 k true a0_0 a0_1 a0_2 a0_3 a0_4 a0_5 a0_6 a0_7 a0_8 a0_9 a0_10 a0_11 a0_12 l0_13 a0_14 t174 t175 t176 t177 t178 t179))) else (event_Check.j0 k true a0_0 a0_1 a0_2 a0_3 a0_4 a0_5 a0_6 a0_7 a0_8 a0_9 a0_10 a0_11 a0_12 l0_13 a0_14 t174 t175 t176 t177 t178 t179)) = some r := H
        have A13 := Aside0.mk A130
        clear A130
        by_cases c14 : t183 = true
        · subst c14
          have H1 : ((event_none_string.f t176 a0_2).bind fun t184 => (if t184 = true then ((event_none_int.f t177 a0_4).bind fun t185 => (if t185 = true then ((api_Config.f t178 a0_5 a0_6 a0_7 a0_8 a0_9 a0_10).bind fun t186 => (if t186 = true then (if t179 = true then (event_Check.j0 k false a0_0 a0_1 a0_2 a0_3 a0_4 a0_5 a0_6 a0_7 a0_8 a0_9 a0_10 a0_11 a0_12 l0_13 a0_14 t174 t175 t176 t177 t178 t179) else ((event_bare.f a0_11 a0_12 l0_13 a0_14).bind fun t187 => (event_Check.j0 k (!t187) a0_0 a0_1 a0_2 a0_3 a0_4 a0_5 a0_6 a0_7 a0_8 a0_9 a0_10 a0_11 a0_12 l0_13 a0_14 t174 t175 t176 t177 t178 t179))) else (event_Check.j0 k true a0_0 a0_1 a0_2 a0_3 a0_4 a0_5 a0_6 a0_7 a0_8 a0_9 a0_10 a0_11 a0_12 l0_13 a0_14 t174 t175 t176 t177 t178 t179))) else (event_Check.j0 k true a0_0 a0_1 a0_2 a0_3 a0_4 a0_5 a0_6 a0_7 a0_8 a0_9 a0_10 a0_11 a0_12 l0_13 a0_14 t174 t175 t176 t177 t178 t179))) else (event_Check.j0 k true a0_0 a0_1 a0_2 a0_3 a0_4 a0_5 a0_6 a0_7 a0_8 a0_9 a0_10 a0_11 a0_12 l0_13 a0_14 t174 t175 t176 t177 t178 t179))) = some r := by rw [if_pos rfl] at H; exact H
          clear H
          have H := H1
          clear H1
          replace H := Option.bind_eq_some_iff.mp H
          obtain ⟨t184, A150, H⟩ := H
          replace H : (if t184 = true then ((event_none_int.f t177 a0_4).bind fun t185 => (if t185 = true then ((api_Config.f t178 a0_5 a0_6 a0_7 a0_8 a0_9 a0_10).bind fun t186 => (if t186 = true then (if t179 = true then (event_Check.j0 k false a0_0 a0_1 a0_2 a0_3 a0_4 a0_5 a0_6 a0_7 a0_8 a0_9 a0_10 a0_11 a0_12 l0_13 a0_14 t174 t175 t176 t177 t178 t179) else ((event_bare.f a0_11 a0_12 l0_13 a0_14).bind fun t187 => (event_Check.j0 k (!t187) a0_0 a0_1 a0_2 a0_3 a0_4 a0_5 a0_6 a0_7 a0_8 a0_9 a0_10 a0_11 a0_12 l0_13 a0_14 t174 t175 t176 t177 t178 t179))) else (event_Check.j0 k true a0_0 a0_1 a0_2 a0_3 a0_4 a0_5 a0_6 a0_7 a0_8 a0_9 a0_10 a0_11 a0_12 l0_13 a0_14 t174 t175 t176 t177 t178 t179))) else (event_Check.j0 k true a0_0 a0_1 a0_2 a0_3 a0_4 a0_5 a0_6 a0_7 a0_8 a0_9 a0_10 a0_11 a0_12 l0_13 a0_14 t174 t175 t176 t177 t178 t179))) else (event_Check.j0 k true a0_0 a0_1 a0_2 a0_3 a0_4 a0_5 a0_6 a0_7 a0_8 a0_9 a0_10 a0_11 a0_12 l0_13 a0_14 t174 t175 t176 t177 t178 t179)) = some r := H
          have A15 := Aside0.mk A150
          clear A150
          by_cases c16 : t184 = true
          · subst c16
            have H1 : ((event_none_int.f t177 a0_4).bind fun t185 => (if t185 = true then ((api_Config.f t178 a0_5 a0_6 a0_7 a0_8 a0_9 a0_10).bind fun t186 => (if t186 = true then (if t179 = true then (event_Check.j0 k false a0_0 a0_1 a0_2 a0_3 a0_4 a0_5 a0_6 a0_7 a0_8 a0_9 a0_10 a0_11 a0_12 l0_13 a0_14 t174 t175 t176 t177 t178 t179) else ((event_bare.f a0_11 a0_12 l0_13 a0_14).bind fun t187 => (event_Check.j0 k (!t187) a0_0 a0_1 a0_2 a0_3 a0_4 a0_5 a0_6 a0_7 a0_8 a0_9 a0_10 a0_11 a0_12 l0_13 a0_14 t174 t175 t176 t177 t178 t179))) else (event_Check.j0 k true a0_0 a0_1 a0_2 a0_3 a0_4 a0_5 a0_6 a0_7 a0_8 a0_9 a0_10 a0_11 a0_12 l0_13 a0_14 t174 t175 t176 t177 t178 t179))) else (event_Check.j0 k true a0_0 a0_1 a0_2 a0_3 a0_4 a0_5 a0_6 a0_7 a0_8 a0_9 a0_10 a0_11 a0_12 l0_13 a0_14 t174 t175 t176 t177 t178 t179))) = some r := by rw [if_pos rfl] at H; exact H
            clear H
            have H := H1
            clear H1
            replace H := Option.bind_eq_some_iff.mp H
            obtain ⟨t185, A170, H⟩ := H
            replace H : (if t185 = true then ((api_Config.f t178 a0_5 a0_6 a0_7 a0_8 a0_9 a0_10).bind fun t186 => (if t186 = true then (if t179 = true then (event_Check.j0 k false a0_0 a0_1 a0_2 a0_3 a0_4 a0_5 a0_6 a0_7 a0_8 a0_9 a0_10 a0_11 a0_12 l0_13 a0_14 t174 t175 t176 t177 t178 t179) else ((event_bare.f a0_11 a0_12 l0_13 a0_14).bind fun t187 => (event_Check.j0 k (!t187) a0_0 a0_1 a0_2 a0_3 a0_4 a0_5 a0_6 a0_7 a0_8 a0_9 a0_10 a0_11 a0_12 l0_13 a0_14 t174 t175 t176 t177 t178 t179))) else (event_Check.j0 k true a0_0 a0_1 a0_2 a0_3 a0_4 a0_5 a0_6 a0_7 a0_8 a0_9 a0_10 a0_11 a0_12 l0_13 a0_14 t174 t175 t176 t177 t178 t179))) else (event_Check.j0 k true a0_0 a0_1 a0_2 a0_3 a0_4 a0_5 a0_6 a0_7 a0_8 a0_9 a0_10 a0_11 a0_12 l0_13 a0_14 t174 t175 t176 t177 t178 t179)) = some r := H
            have A17 := Aside0.mk A170
            clear A170
            by_cases c18 : t185 = true
            · subst c18
              have H1 : ((api_Config.f t178 a0_5 a0_6 a0_7 a0_8 a0_9 a0_10).bind fun t186 => (if t186 = true then (if t179 = true then (event_Check.j0 k false a0_0 a0_1 a0_2 a0_3 a0_4 a0_5 a0_6 a0_7 a0_8 a0_9 a0_10 a0_11 a0_12 l0_13 a0_14 t174 t175 t176 t177 t178 t179) else ((event_bare.f a0_11 a0_12 l0_13 a0_14).bind fun t187 => (event_Check.j0 k (!t187) a0_0 a0_1 a0_2 a0_3 a0_4 a0_5 a0_6 a0_7 a0_8 a0_9 a0_10 a0_11 a0_12 l0_13 a0_14 t174 t175 t176 t177 t178 t179))) else (event_Check.j0 k true a0_0 a0_1 a0_2 a0_3 a0_4 a0_5 a0_6 a0_7 a0_8 a0_9 a0_10 a0_11 a0_12 l0_13 a0_14 t174 t175 t176 t177 t178 t179))) = some r := by rw [if_pos rfl] at H; exact H
              clear H
              have H := H1
              clear H1
              replace H := Option.bind_eq_some_iff.mp H
              obtain ⟨t186, A190, H⟩ := H
              replace H : (if t186 = true then (if t179 = true then (event_Check.j0 k false a0_0 a0_1 a0_2 a0_3 a0_4 a0_5 a0_6 a0_7 a0_8 a0_9 a0_10 a0_11 a0_12 l0_13 a0_14 t174 t175 t176 t177 t178 t179) else ((event_bare.f a0_11 a0_12 l0_13 a0_14).bind fun t187 => (event_Check.j0 k (!t187) a0_0 a0_1 a0_2 a0_3 a0_4 a0_5 a0_6 a0_7 a0_8 a0_9 a0_10 a0_11 a0_12 l0_13 a0_14 t174 t175 t176 t177 t178 t179))) else (event_Check.j0 k true a0_0 a0_1 a0_2 a0_3 a0_4 a0_5 a0_6 a0_7 a0_8 a0_9 a0_10 a0_11 a0_12 l0_13 a0_14 t174 t175 t176 t177 t178 t179)) = some r := H
              have A19 := Aside0.mk A190
              clear A190
              by_cases c20 : t186 = true
              · subst c20
                have H1 : (if t179 = true then (event_Check.j0 k false a0_0 a0_1 a0_2 a0_3 a0_4 a0_5 a0_6 a0_7 a0_8 a0_9 a0_10 a0_11 a0_12 l0_13 a0_14 t174 t175 t176 t177 t178 t179) else ((event_bare.f a0_11 a0_12 l0_13 a0_14).bind fun t187 => (event_Check.j0 k (!t187) a0_0 a0_1 a0_2 a0_3 a0_4 a0_5 a0_6 a0_7 a0_8 a0_9 a0_10 a0_11 a0_12 l0_13 a0_14 t174 t175 t176 t177 t178 t179))) = some r := by rw [if_pos rfl] at H; exact H
                clear H
                have H := H1
                clear H1
                by_cases c21 : t179 = true
                · subst c21
                  have H1 : (event_Check.j0 k false a0_0 a0_1 a0_2 a0_3 a0_4 a0_5 a0_6 a0_7 a0_8 a0_9 a0_10 a0_11 a0_12 l0_13 a0_14 t174 t175 t176 t177 t178 true) = some r := by rw [if_pos rfl] at H; exact H
                  clear H
                  have H := H1
                  clear H1
                  have H' := Aside0.mk H
                  clear H
                  have hnb22 := NB181_173.out
                  have hnc22 := NB173_181.out
                  have hcz23_0 : w8.cell? ⟨gb181, 0, none⟩ = some (.bool false) := bc BK181 0
                  have hcz23_1 : w8.cell? ⟨gb181, 1, none⟩ = some (.bool false) := bc BK181 1
                  have hcz23_2 : w8.cell? ⟨gb181, 2, none⟩ = some (.bool false) := bc BK181 2
                  have hcz23_3 : w8.cell? ⟨gb181, 3, none⟩ = some (.bool false) := bc BK181 3
                  have hcz23_4 : w8.cell? ⟨gb181, 4, none⟩ = some (.bool false) := bc BK181 4
                  have hcz23_5 : w8.cell? ⟨gb181, 5, none⟩ = some (.bool false) := bc BK181 5
                  have hfz23_0 := blk_frozen BK181.out 0
                  have hfz23_1 := blk_frozen BK181.out 1
                  have hfz23_2 := blk_frozen BK181.out 2
                  have hfz23_3 := blk_frozen BK181.out 3
                  have hfz23_4 := blk_frozen BK181.out 4
                  have hfz23_5 := blk_frozen BK181.out 5
                  have hcz24_0 : w8.cell? ⟨gb173, 0, none⟩ = some (.int .i64 a0_0) := bc BK173 0
                  have hcz24_1 : w8.cell? ⟨gb173, 1, none⟩ = some (.string a0_1) := bc BK173 1
                  have hcz24_2 : w8.cell? ⟨gb173, 2, none⟩ = some (.string a0_2) := bc BK173 2
                  have hcz24_3 : w8.cell? ⟨gb173, 3, none⟩ = some (.int .i64 a0_3) := bc BK173 3
                  have hcz24_4 : w8.cell? ⟨gb173, 4, none⟩ = some (.int .i64 a0_4) := bc BK173 4
                  have hcz24_5 : w8.cell? ⟨gb173, 5, none⟩ = some (.string a0_5) := bc BK173 5
                  have hcz24_6 : w8.cell? ⟨gb173, 6, none⟩ = some (.int .i64 a0_6) := bc BK173 6
                  have hcz24_7 : w8.cell? ⟨gb173, 7, none⟩ = some (.int .i64 a0_7) := bc BK173 7
                  have hcz24_8 : w8.cell? ⟨gb173, 8, none⟩ = some (.int .i64 a0_8) := bc BK173 8
                  have hcz24_9 : w8.cell? ⟨gb173, 9, none⟩ = some (.int .i64 a0_9) := bc BK173 9
                  have hcz24_10 : w8.cell? ⟨gb173, 10, none⟩ = some (.int .i64 a0_10) := bc BK173 10
                  have hcz24_11 : w8.cell? ⟨gb173, 11, none⟩ = some (.string a0_11) := bc BK173 11
                  have hcz24_12 : w8.cell? ⟨gb173, 12, none⟩ = some (.string a0_12) := bc BK173 12
                  have hcz24_13 : w8.cell? ⟨gb173, 13, none⟩ = some (.slice A0_13 l0_13.length c0_13) := bc BK173 13
                  have hcz24_14 : w8.cell? ⟨gb173, 14, none⟩ = some (.int .i64 a0_14) := bc BK173 14
                  have hfz24_0 := blk_frozen BK173.out 0
                  have hfz24_1 := blk_frozen BK173.out 1
                  have hfz24_2 := blk_frozen BK173.out 2
                  have hfz24_3 := blk_frozen BK173.out 3
                  have hfz24_4 := blk_frozen BK173.out 4
                  have hfz24_5 := blk_frozen BK173.out 5
                  have hfz24_6 := blk_frozen BK173.out 6
                  have hfz24_7 := blk_frozen BK173.out 7
                  have hfz24_8 := blk_frozen BK173.out 8
                  have hfz24_9 := blk_frozen BK173.out 9
                  have hfz24_10 := blk_frozen BK173.out 10
                  have hfz24_11 := blk_frozen BK173.out 11
                  have hfz24_12 := blk_frozen BK173.out 12
                  have hfz24_13 := blk_frozen BK173.out 13
                  have hfz24_14 := blk_frozen BK173.out 14
                  go_wp2_with (first | ((with_reducible refine gate_callee (f := 31) rfl ?_); refine goesL_ (some 17) rfl rfl Tryd.func31 (by kernel_rfl) rfl #[.bool t174, .int .i64 a0_3] rfl (by (try simp only [List.map_toArray, List.map_cons, List.map_nil]); first | done | rfl | (simp only [List.length_drop, List.length_take]; rfl)) ?_; (with_reducible refine (event_none_int.calls t174 a0_3 true _ A11.out).mono ?_); rintro e w' ⟨rfl, ⟨nd, rfl⟩⟩; refine ⟨_, rfl, ?_⟩) | (go_at_call 32; (with_reducible refine (event_none_string.calls t175 a0_1 true _ A13.out).mono ?_); rintro e w' ⟨rfl, ⟨nd, rfl⟩⟩) | (go_at_call 32; (with_reducible refine (event_none_string.calls t176 a0_2 true _ A15.out).mono ?_); rintro e w' ⟨rfl, ⟨nd, rfl⟩⟩) | (go_at_call 31; (with_reducible refine (event_none_int.calls t177 a0_4 true _ A17.out).mono ?_); rintro e w' ⟨rfl, ⟨nd, rfl⟩⟩) | (go_at_call 33; (with_reducible refine (api_Config.calls t178 a0_5 a0_6 a0_7 a0_8 a0_9 a0_10 true _ A19.out).mono ?_); rintro e w25 ⟨rfl, hb⟩; have n0_ := Aside0.mk (blk_below (g := gb173) (o := .cells #[.int .i64 a0_0, .string a0_1, .string a0_2, .int .i64 a0_3, .int .i64 a0_4, .string a0_5, .int .i64 a0_6, .int .i64 a0_7, .int .i64 a0_8, .int .i64 a0_9, .int .i64 a0_10, .string a0_11, .string a0_12, .slice A0_13 l0_13.length c0_13, .int .i64 a0_14] 28 (0, 0)) (by (repeat ((with_reducible repeat (first | refine blk_drewN ?_ _ | refine blk_drew ?_ | refine blk_alloc ?_ _)); with_reducible refine blk_far ?_ NB173_181.out _)); (with_reducible repeat (first | refine blk_drewN ?_ _ | refine blk_drew ?_ | refine blk_alloc ?_ _)); exact BK173.out) hb); have n1_ := Aside0.mk (blk_below (g := gb181) (o := .cells #[.bool t174, .bool t175, .bool t176, .bool t177, .bool t178, .bool true] 66 (0, 0)) (by (with_reducible repeat (first | refine blk_drewN ?_ _ | refine blk_drew ?_ | refine blk_alloc ?_ _)); refine blk_put (cs := #[.bool t174, .bool t175, .bool t176, .bool t177, .bool t178, .bool false]) ?_ 5 _ rfl; (with_reducible repeat (first | refine blk_drewN ?_ _ | refine blk_drew ?_ | refine blk_alloc ?_ _)); refine blk_put (cs := #[.bool t174, .bool t175, .bool t176, .bool t177, .bool false, .bool false]) ?_ 4 _ rfl; (with_reducible repeat (first | refine blk_drewN ?_ _ | refine blk_drew ?_ | refine blk_alloc ?_ _)); refine blk_put (cs := #[.bool t174, .bool t175, .bool t176, .bool false, .bool false, .bool false]) ?_ 3 _ rfl; (with_reducible repeat (first | refine blk_drewN ?_ _ | refine blk_drew ?_ | refine blk_alloc ?_ _)); refine blk_put (cs := #[.bool t174, .bool t175, .bool false, .bool false, .bool false, .bool false]) ?_ 2 _ rfl; (with_reducible repeat (first | refine blk_drewN ?_ _ | refine blk_drew ?_ | refine blk_alloc ?_ _)); refine blk_put (cs := #[.bool t174, .bool false, .bool false, .bool false, .bool false, .bool false]) ?_ 1 _ rfl; (with_reducible repeat (first | refine blk_drewN ?_ _ | refine blk_drew ?_ | refine blk_alloc ?_ _)); refine blk_put (cs := #[.bool false, .bool false, .bool false, .bool false, .bool false, .bool false]) ?_ 0 _ rfl; (with_reducible repeat (first | refine blk_drewN ?_ _ | refine blk_drew ?_ | refine blk_alloc ?_ _)); exact BK181.out) hb); have n2_ := Aside0.mk (below_step (by repeat (first | (with_reducible first | exact HB.out | apply below_alloc | apply pw_below_drewN | apply below_drew1 | refine below_set ?_ GE173.out | refine below_set ?_ GE181.out) | exact HB.out)) hb); clear BK173; clear BK181; clear HB; have BK173 := n0_; have BK181 := n1_; have HB := n2_; clear n0_ n1_ n2_; (try clear hb); (try clear hb2); (try clear hk); (try clear hi); have hcz26_0 : w25.cell? ⟨gb181, 0, none⟩ = some (.bool t174) := bc BK181 0; have hcz26_1 : w25.cell? ⟨gb181, 1, none⟩ = some (.bool t175) := bc BK181 1; have hcz26_2 : w25.cell? ⟨gb181, 2, none⟩ = some (.bool t176) := bc BK181 2; have hcz26_3 : w25.cell? ⟨gb181, 3, none⟩ = some (.bool t177) := bc BK181 3; have hcz26_4 : w25.cell? ⟨gb181, 4, none⟩ = some (.bool t178) := bc BK181 4; have hcz26_5 : w25.cell? ⟨gb181, 5, none⟩ = some (.bool true) := bc BK181 5; have hfz26_0 := blk_frozen BK181.out 0; have hfz26_1 := blk_frozen BK181.out 1; have hfz26_2 := blk_frozen BK181.out 2; have hfz26_3 := blk_frozen BK181.out 3; have hfz26_4 := blk_frozen BK181.out 4; have hfz26_5 := blk_frozen BK181.out 5))
                  go_meet
                  case rel => exact ⟨_, (false), (by first | rfl | (simp; done) | (simp [*]; done)), H', ⟨by first | omega | exact Nat.le_refl _⟩, ⟨by (with_reducible repeat (first | refine blk_drewN ?_ _ | refine blk_drew ?_ | refine blk_alloc ?_ _)); exact BK173.out⟩, ⟨by (with_reducible repeat (first | refine blk_drewN ?_ _ | refine blk_drew ?_ | refine blk_alloc ?_ _)); exact BK181.out⟩, ⟨by repeat (first | (with_reducible first | exact HB.out | apply below_alloc | apply pw_below_drewN | apply below_drew1 | refine below_set ?_ GE173.out | refine below_set ?_ GE181.out) | exact HB.out)⟩⟩
                · replace c21 := Bool.eq_false_iff.mpr c21
                  subst c21
                  have H1 : ((event_bare.f a0_11 a0_12 l0_13 a0_14).bind fun t187 => (event_Check.j0 k (!t187) a0_0 a0_1 a0_2 a0_3 a0_4 a0_5 a0_6 a0_7 a0_8 a0_9 a0_10 a0_11 a0_12 l0_13 a0_14 t174 t175 t176 t177 t178 false)) = some r := by rw [if_neg (show ¬ (false = true) by decide)] at H; exact H
                  clear H
                  have H := H1
                  clear H1
                  replace H := Option.bind_eq_some_iff.mp H
                  obtain ⟨t187, A270, H⟩ := H
                  replace H : (event_Check.j0 k (!t187) a0_0 a0_1 a0_2 a0_3 a0_4 a0_5 a0_6 a0_7 a0_8 a0_9 a0_10 a0_11 a0_12 l0_13 a0_14 t174 t175 t176 t177 t178 false) = some r := H
                  have A27 := Aside0.mk A270
                  clear A270
                  have H' := Aside0.mk H
                  clear H
                  have hnb28 := NB181_173.out
                  have hnc28 := NB173_181.out
                  have hcz29_0 : w8.cell? ⟨gb181, 0, none⟩ = some (.bool false) := bc BK181 0
                  have hcz29_1 : w8.cell? ⟨gb181, 1, none⟩ = some (.bool false) := bc BK181 1
                  have hcz29_2 : w8.cell? ⟨gb181, 2, none⟩ = some (.bool false) := bc BK181 2
                  have hcz29_3 : w8.cell? ⟨gb181, 3, none⟩ = some (.bool false) := bc BK181 3
                  have hcz29_4 : w8.cell? ⟨gb181, 4, none⟩ = some (.bool false) := bc BK181 4
                  have hcz29_5 : w8.cell? ⟨gb181, 5, none⟩ = some (.bool false) := bc BK181 5
                  have hfz29_0 := blk_frozen BK181.out 0
                  have hfz29_1 := blk_frozen BK181.out 1
                  have hfz29_2 := blk_frozen BK181.out 2
                  have hfz29_3 := blk_frozen BK181.out 3
                  have hfz29_4 := blk_frozen BK181.out 4
                  have hfz29_5 := blk_frozen BK181.out 5
                  have hcz30_0 : w8.cell? ⟨gb173, 0, none⟩ = some (.int .i64 a0_0) := bc BK173 0
                  have hcz30_1 : w8.cell? ⟨gb173, 1, none⟩ = some (.string a0_1) := bc BK173 1
                  have hcz30_2 : w8.cell? ⟨gb173, 2, none⟩ = some (.string a0_2) := bc BK173 2
                  have hcz30_3 : w8.cell? ⟨gb173, 3, none⟩ = some (.int .i64 a0_3) := bc BK173 3
                  have hcz30_4 : w8.cell? ⟨gb173, 4, none⟩ = some (.int .i64 a0_4) := bc BK173 4
                  have hcz30_5 : w8.cell? ⟨gb173, 5, none⟩ = some (.string a0_5) := bc BK173 5
                  have hcz30_6 : w8.cell? ⟨gb173, 6, none⟩ = some (.int .i64 a0_6) := bc BK173 6
                  have hcz30_7 : w8.cell? ⟨gb173, 7, none⟩ = some (.int .i64 a0_7) := bc BK173 7
                  have hcz30_8 : w8.cell? ⟨gb173, 8, none⟩ = some (.int .i64 a0_8) := bc BK173 8
                  have hcz30_9 : w8.cell? ⟨gb173, 9, none⟩ = some (.int .i64 a0_9) := bc BK173 9
                  have hcz30_10 : w8.cell? ⟨gb173, 10, none⟩ = some (.int .i64 a0_10) := bc BK173 10
                  have hcz30_11 : w8.cell? ⟨gb173, 11, none⟩ = some (.string a0_11) := bc BK173 11
                  have hcz30_12 : w8.cell? ⟨gb173, 12, none⟩ = some (.string a0_12) := bc BK173 12
                  have hcz30_13 : w8.cell? ⟨gb173, 13, none⟩ = some (.slice A0_13 l0_13.length c0_13) := bc BK173 13
                  have hcz30_14 : w8.cell? ⟨gb173, 14, none⟩ = some (.int .i64 a0_14) := bc BK173 14
                  have hfz30_0 := blk_frozen BK173.out 0
                  have hfz30_1 := blk_frozen BK173.out 1
                  have hfz30_2 := blk_frozen BK173.out 2
                  have hfz30_3 := blk_frozen BK173.out 3
                  have hfz30_4 := blk_frozen BK173.out 4
                  have hfz30_5 := blk_frozen BK173.out 5
                  have hfz30_6 := blk_frozen BK173.out 6
                  have hfz30_7 := blk_frozen BK173.out 7
                  have hfz30_8 := blk_frozen BK173.out 8
                  have hfz30_9 := blk_frozen BK173.out 9
                  have hfz30_10 := blk_frozen BK173.out 10
                  have hfz30_11 := blk_frozen BK173.out 11
                  have hfz30_12 := blk_frozen BK173.out 12
                  have hfz30_13 := blk_frozen BK173.out 13
                  have hfz30_14 := blk_frozen BK173.out 14
                  go_wp2_with (first | ((with_reducible refine gate_callee (f := 31) rfl ?_); refine goesL_ (some 17) rfl rfl Tryd.func31 (by kernel_rfl) rfl #[.bool t174, .int .i64 a0_3] rfl (by (try simp only [List.map_toArray, List.map_cons, List.map_nil]); first | done | rfl | (simp only [List.length_drop, List.length_take]; rfl)) ?_; (with_reducible refine (event_none_int.calls t174 a0_3 true _ A11.out).mono ?_); rintro e w' ⟨rfl, ⟨nd, rfl⟩⟩; refine ⟨_, rfl, ?_⟩) | (go_at_call 32; (with_reducible refine (event_none_string.calls t175 a0_1 true _ A13.out).mono ?_); rintro e w' ⟨rfl, ⟨nd, rfl⟩⟩) | (go_at_call 32; (with_reducible refine (event_none_string.calls t176 a0_2 true _ A15.out).mono ?_); rintro e w' ⟨rfl, ⟨nd, rfl⟩⟩) | (go_at_call 31; (with_reducible refine (event_none_int.calls t177 a0_4 true _ A17.out).mono ?_); rintro e w' ⟨rfl, ⟨nd, rfl⟩⟩) | (go_at_call 33; (with_reducible refine (api_Config.calls t178 a0_5 a0_6 a0_7 a0_8 a0_9 a0_10 true _ A19.out).mono ?_); rintro e w31 ⟨rfl, hb⟩; have n0_ := Aside0.mk (blk_below (g := gb173) (o := .cells #[.int .i64 a0_0, .string a0_1, .string a0_2, .int .i64 a0_3, .int .i64 a0_4, .string a0_5, .int .i64 a0_6, .int .i64 a0_7, .int .i64 a0_8, .int .i64 a0_9, .int .i64 a0_10, .string a0_11, .string a0_12, .slice A0_13 l0_13.length c0_13, .int .i64 a0_14] 28 (0, 0)) (by (repeat ((with_reducible repeat (first | refine blk_drewN ?_ _ | refine blk_drew ?_ | refine blk_alloc ?_ _)); with_reducible refine blk_far ?_ NB173_181.out _)); (with_reducible repeat (first | refine blk_drewN ?_ _ | refine blk_drew ?_ | refine blk_alloc ?_ _)); exact BK173.out) hb); have n1_ := Aside0.mk (blk_below (g := gb181) (o := .cells #[.bool t174, .bool t175, .bool t176, .bool t177, .bool t178, .bool false] 66 (0, 0)) (by (with_reducible repeat (first | refine blk_drewN ?_ _ | refine blk_drew ?_ | refine blk_alloc ?_ _)); refine blk_put (cs := #[.bool t174, .bool t175, .bool t176, .bool t177, .bool t178, .bool false]) ?_ 5 _ rfl; (with_reducible repeat (first | refine blk_drewN ?_ _ | refine blk_drew ?_ | refine blk_alloc ?_ _)); refine blk_put (cs := #[.bool t174, .bool t175, .bool t176, .bool t177, .bool false, .bool false]) ?_ 4 _ rfl; (with_reducible repeat (first | refine blk_drewN ?_ _ | refine blk_drew ?_ | refine blk_alloc ?_ _)); refine blk_put (cs := #[.bool t174, .bool t175, .bool t176, .bool false, .bool false, .bool false]) ?_ 3 _ rfl; (with_reducible repeat (first | refine blk_drewN ?_ _ | refine blk_drew ?_ | refine blk_alloc ?_ _)); refine blk_put (cs := #[.bool t174, .bool t175, .bool false, .bool false, .bool false, .bool false]) ?_ 2 _ rfl; (with_reducible repeat (first | refine blk_drewN ?_ _ | refine blk_drew ?_ | refine blk_alloc ?_ _)); refine blk_put (cs := #[.bool t174, .bool false, .bool false, .bool false, .bool false, .bool false]) ?_ 1 _ rfl; (with_reducible repeat (first | refine blk_drewN ?_ _ | refine blk_drew ?_ | refine blk_alloc ?_ _)); refine blk_put (cs := #[.bool false, .bool false, .bool false, .bool false, .bool false, .bool false]) ?_ 0 _ rfl; (with_reducible repeat (first | refine blk_drewN ?_ _ | refine blk_drew ?_ | refine blk_alloc ?_ _)); exact BK181.out) hb); have n2_ := Aside0.mk (below_step (by repeat (first | (with_reducible first | exact HB.out | apply below_alloc | apply pw_below_drewN | apply below_drew1 | refine below_set ?_ GE173.out | refine below_set ?_ GE181.out) | exact HB.out)) hb); clear BK173; clear BK181; clear HB; have BK173 := n0_; have BK181 := n1_; have HB := n2_; clear n0_ n1_ n2_; (try clear hb); (try clear hb2); (try clear hk); (try clear hi); have hcz32_0 : w31.cell? ⟨gb181, 0, none⟩ = some (.bool t174) := bc BK181 0; have hcz32_1 : w31.cell? ⟨gb181, 1, none⟩ = some (.bool t175) := bc BK181 1; have hcz32_2 : w31.cell? ⟨gb181, 2, none⟩ = some (.bool t176) := bc BK181 2; have hcz32_3 : w31.cell? ⟨gb181, 3, none⟩ = some (.bool t177) := bc BK181 3; have hcz32_4 : w31.cell? ⟨gb181, 4, none⟩ = some (.bool t178) := bc BK181 4; have hcz32_5 : w31.cell? ⟨gb181, 5, none⟩ = some (.bool false) := bc BK181 5; have hfz32_0 := blk_frozen BK181.out 0; have hfz32_1 := blk_frozen BK181.out 1; have hfz32_2 := blk_frozen BK181.out 2; have hfz32_3 := blk_frozen BK181.out 3; have hfz32_4 := blk_frozen BK181.out 4; have hfz32_5 := blk_frozen BK181.out 5; have hcz33_0 : w31.cell? ⟨gb173, 0, none⟩ = some (.int .i64 a0_0) := bc BK173 0; have hcz33_1 : w31.cell? ⟨gb173, 1, none⟩ = some (.string a0_1) := bc BK173 1; have hcz33_2 : w31.cell? ⟨gb173, 2, none⟩ = some (.string a0_2) := bc BK173 2; have hcz33_3 : w31.cell? ⟨gb173, 3, none⟩ = some (.int .i64 a0_3) := bc BK173 3; have hcz33_4 : w31.cell? ⟨gb173, 4, none⟩ = some (.int .i64 a0_4) := bc BK173 4; have hcz33_5 : w31.cell? ⟨gb173, 5, none⟩ = some (.string a0_5) := bc BK173 5; have hcz33_6 : w31.cell? ⟨gb173, 6, none⟩ = some (.int .i64 a0_6) := bc BK173 6; have hcz33_7 : w31.cell? ⟨gb173, 7, none⟩ = some (.int .i64 a0_7) := bc BK173 7; have hcz33_8 : w31.cell? ⟨gb173, 8, none⟩ = some (.int .i64 a0_8) := bc BK173 8; have hcz33_9 : w31.cell? ⟨gb173, 9, none⟩ = some (.int .i64 a0_9) := bc BK173 9; have hcz33_10 : w31.cell? ⟨gb173, 10, none⟩ = some (.int .i64 a0_10) := bc BK173 10; have hcz33_11 : w31.cell? ⟨gb173, 11, none⟩ = some (.string a0_11) := bc BK173 11; have hcz33_12 : w31.cell? ⟨gb173, 12, none⟩ = some (.string a0_12) := bc BK173 12; have hcz33_13 : w31.cell? ⟨gb173, 13, none⟩ = some (.slice A0_13 l0_13.length c0_13) := bc BK173 13; have hcz33_14 : w31.cell? ⟨gb173, 14, none⟩ = some (.int .i64 a0_14) := bc BK173 14; have hfz33_0 := blk_frozen BK173.out 0; have hfz33_1 := blk_frozen BK173.out 1; have hfz33_2 := blk_frozen BK173.out 2; have hfz33_3 := blk_frozen BK173.out 3; have hfz33_4 := blk_frozen BK173.out 4; have hfz33_5 := blk_frozen BK173.out 5; have hfz33_6 := blk_frozen BK173.out 6; have hfz33_7 := blk_frozen BK173.out 7; have hfz33_8 := blk_frozen BK173.out 8; have hfz33_9 := blk_frozen BK173.out 9; have hfz33_10 := blk_frozen BK173.out 10; have hfz33_11 := blk_frozen BK173.out 11; have hfz33_12 := blk_frozen BK173.out 12; have hfz33_13 := blk_frozen BK173.out 13; have hfz33_14 := blk_frozen BK173.out 14) | (go_at_call 34; (with_reducible refine (event_bare.calls a0_11 a0_12 _ _ l0_13 a0_14 t187 _ ?side1 ?side2 A27.out).mono ?_); (case side1 => repeat (first | exact (Kd.C_below HR0_13.out HB.out) | (with_reducible refine Kd.C_alloc ?_ _) | (with_reducible refine Kd.C_drewN ?_ _) | (with_reducible refine Kd.C_drew ?_))); (case side2 => exact HC0_13.out); rintro e w34 ⟨rfl, hb⟩; have n0_ := Aside0.mk (blk_below (g := gb173) (pk BK173) hb); have n1_ := Aside0.mk (blk_below (g := gb181) (pk BK181) hb); have n2_ := Aside0.mk (below_step (by repeat (first | (with_reducible first | exact HB.out | apply below_alloc | apply pw_below_drewN | apply below_drew1 | refine below_set ?_ GE173.out | refine below_set ?_ GE181.out) | exact HB.out)) hb); clear BK173; clear BK181; clear HB; have BK173 := n0_; have BK181 := n1_; have HB := n2_; clear n0_ n1_ n2_; (try clear hb); (try clear hb2); (try clear hk); (try clear hi)))
                  go_meet
                  case rel => exact ⟨_, (!t187), (by first | rfl | (simp; done) | (simp [*]; done)), H', ⟨by first | omega | exact Nat.le_refl _⟩, ⟨by (with_reducible repeat (first | refine blk_drewN ?_ _ | refine blk_drew ?_ | refine blk_alloc ?_ _)); exact BK173.out⟩, ⟨by (with_reducible repeat (first | refine blk_drewN ?_ _ | refine blk_drew ?_ | refine blk_alloc ?_ _)); exact BK181.out⟩, ⟨by repeat (first | (with_reducible first | exact HB.out | apply below_alloc | apply pw_below_drewN | apply below_drew1 | refine below_set ?_ GE173.out | refine below_set ?_ GE181.out) | exact HB.out)⟩⟩
              · replace c20 := Bool.eq_false_iff.mpr c20
                subst c20
                have H1 : (event_Check.j0 k true a0_0 a0_1 a0_2 a0_3 a0_4 a0_5 a0_6 a0_7 a0_8 a0_9 a0_10 a0_11 a0_12 l0_13 a0_14 t174 t175 t176 t177 t178 t179) = some r := by rw [if_neg (show ¬ (false = true) by decide)] at H; exact H
                clear H
                have H := H1
                clear H1
                have H' := Aside0.mk H
                clear H
                have hnb35 := NB181_173.out
                have hnc35 := NB173_181.out
                have hcz36_0 : w8.cell? ⟨gb181, 0, none⟩ = some (.bool false) := bc BK181 0
                have hcz36_1 : w8.cell? ⟨gb181, 1, none⟩ = some (.bool false) := bc BK181 1
                have hcz36_2 : w8.cell? ⟨gb181, 2, none⟩ = some (.bool false) := bc BK181 2
                have hcz36_3 : w8.cell? ⟨gb181, 3, none⟩ = some (.bool false) := bc BK181 3
                have hcz36_4 : w8.cell? ⟨gb181, 4, none⟩ = some (.bool false) := bc BK181 4
                have hcz36_5 : w8.cell? ⟨gb181, 5, none⟩ = some (.bool false) := bc BK181 5
                have hfz36_0 := blk_frozen BK181.out 0
                have hfz36_1 := blk_frozen BK181.out 1
                have hfz36_2 := blk_frozen BK181.out 2
                have hfz36_3 := blk_frozen BK181.out 3
                have hfz36_4 := blk_frozen BK181.out 4
                have hfz36_5 := blk_frozen BK181.out 5
                have hcz37_0 : w8.cell? ⟨gb173, 0, none⟩ = some (.int .i64 a0_0) := bc BK173 0
                have hcz37_1 : w8.cell? ⟨gb173, 1, none⟩ = some (.string a0_1) := bc BK173 1
                have hcz37_2 : w8.cell? ⟨gb173, 2, none⟩ = some (.string a0_2) := bc BK173 2
                have hcz37_3 : w8.cell? ⟨gb173, 3, none⟩ = some (.int .i64 a0_3) := bc BK173 3
                have hcz37_4 : w8.cell? ⟨gb173, 4, none⟩ = some (.int .i64 a0_4) := bc BK173 4
                have hcz37_5 : w8.cell? ⟨gb173, 5, none⟩ = some (.string a0_5) := bc BK173 5
                have hcz37_6 : w8.cell? ⟨gb173, 6, none⟩ = some (.int .i64 a0_6) := bc BK173 6
                have hcz37_7 : w8.cell? ⟨gb173, 7, none⟩ = some (.int .i64 a0_7) := bc BK173 7
                have hcz37_8 : w8.cell? ⟨gb173, 8, none⟩ = some (.int .i64 a0_8) := bc BK173 8
                have hcz37_9 : w8.cell? ⟨gb173, 9, none⟩ = some (.int .i64 a0_9) := bc BK173 9
                have hcz37_10 : w8.cell? ⟨gb173, 10, none⟩ = some (.int .i64 a0_10) := bc BK173 10
                have hcz37_11 : w8.cell? ⟨gb173, 11, none⟩ = some (.string a0_11) := bc BK173 11
                have hcz37_12 : w8.cell? ⟨gb173, 12, none⟩ = some (.string a0_12) := bc BK173 12
                have hcz37_13 : w8.cell? ⟨gb173, 13, none⟩ = some (.slice A0_13 l0_13.length c0_13) := bc BK173 13
                have hcz37_14 : w8.cell? ⟨gb173, 14, none⟩ = some (.int .i64 a0_14) := bc BK173 14
                have hfz37_0 := blk_frozen BK173.out 0
                have hfz37_1 := blk_frozen BK173.out 1
                have hfz37_2 := blk_frozen BK173.out 2
                have hfz37_3 := blk_frozen BK173.out 3
                have hfz37_4 := blk_frozen BK173.out 4
                have hfz37_5 := blk_frozen BK173.out 5
                have hfz37_6 := blk_frozen BK173.out 6
                have hfz37_7 := blk_frozen BK173.out 7
                have hfz37_8 := blk_frozen BK173.out 8
                have hfz37_9 := blk_frozen BK173.out 9
                have hfz37_10 := blk_frozen BK173.out 10
                have hfz37_11 := blk_frozen BK173.out 11
                have hfz37_12 := blk_frozen BK173.out 12
                have hfz37_13 := blk_frozen BK173.out 13
                have hfz37_14 := blk_frozen BK173.out 14
                go_wp2_with (first | ((with_reducible refine gate_callee (f := 31) rfl ?_); refine goesL_ (some 17) rfl rfl Tryd.func31 (by kernel_rfl) rfl #[.bool t174, .int .i64 a0_3] rfl (by (try simp only [List.map_toArray, List.map_cons, List.map_nil]); first | done | rfl | (simp only [List.length_drop, List.length_take]; rfl)) ?_; (with_reducible refine (event_none_int.calls t174 a0_3 true _ A11.out).mono ?_); rintro e w' ⟨rfl, ⟨nd, rfl⟩⟩; refine ⟨_, rfl, ?_⟩) | (go_at_call 32; (with_reducible refine (event_none_string.calls t175 a0_1 true _ A13.out).mono ?_); rintro e w' ⟨rfl, ⟨nd, rfl⟩⟩) | (go_at_call 32; (with_reducible refine (event_none_string.calls t176 a0_2 true _ A15.out).mono ?_); rintro e w' ⟨rfl, ⟨nd, rfl⟩⟩) | (go_at_call 31; (with_reducible refine (event_none_int.calls t177 a0_4 true _ A17.out).mono ?_); rintro e w' ⟨rfl, ⟨nd, rfl⟩⟩) | (go_at_call 33; (with_reducible refine (api_Config.calls t178 a0_5 a0_6 a0_7 a0_8 a0_9 a0_10 false _ A19.out).mono ?_); rintro e w38 ⟨rfl, hb⟩; have n0_ := Aside0.mk (blk_below (g := gb173) (o := .cells #[.int .i64 a0_0, .string a0_1, .string a0_2, .int .i64 a0_3, .int .i64 a0_4, .string a0_5, .int .i64 a0_6, .int .i64 a0_7, .int .i64 a0_8, .int .i64 a0_9, .int .i64 a0_10, .string a0_11, .string a0_12, .slice A0_13 l0_13.length c0_13, .int .i64 a0_14] 28 (0, 0)) (by (repeat ((with_reducible repeat (first | refine blk_drewN ?_ _ | refine blk_drew ?_ | refine blk_alloc ?_ _)); with_reducible refine blk_far ?_ NB173_181.out _)); (with_reducible repeat (first | refine blk_drewN ?_ _ | refine blk_drew ?_ | refine blk_alloc ?_ _)); exact BK173.out) hb); have n1_ := Aside0.mk (blk_below (g := gb181) (o := .cells #[.bool t174, .bool t175, .bool t176, .bool t177, .bool t178, .bool t179] 66 (0, 0)) (by (with_reducible repeat (first | refine blk_drewN ?_ _ | refine blk_drew ?_ | refine blk_alloc ?_ _)); refine blk_put (cs := #[.bool t174, .bool t175, .bool t176, .bool t177, .bool t178, .bool false]) ?_ 5 _ rfl; (with_reducible repeat (first | refine blk_drewN ?_ _ | refine blk_drew ?_ | refine blk_alloc ?_ _)); refine blk_put (cs := #[.bool t174, .bool t175, .bool t176, .bool t177, .bool false, .bool false]) ?_ 4 _ rfl; (with_reducible repeat (first | refine blk_drewN ?_ _ | refine blk_drew ?_ | refine blk_alloc ?_ _)); refine blk_put (cs := #[.bool t174, .bool t175, .bool t176, .bool false, .bool false, .bool false]) ?_ 3 _ rfl; (with_reducible repeat (first | refine blk_drewN ?_ _ | refine blk_drew ?_ | refine blk_alloc ?_ _)); refine blk_put (cs := #[.bool t174, .bool t175, .bool false, .bool false, .bool false, .bool false]) ?_ 2 _ rfl; (with_reducible repeat (first | refine blk_drewN ?_ _ | refine blk_drew ?_ | refine blk_alloc ?_ _)); refine blk_put (cs := #[.bool t174, .bool false, .bool false, .bool false, .bool false, .bool false]) ?_ 1 _ rfl; (with_reducible repeat (first | refine blk_drewN ?_ _ | refine blk_drew ?_ | refine blk_alloc ?_ _)); refine blk_put (cs := #[.bool false, .bool false, .bool false, .bool false, .bool false, .bool false]) ?_ 0 _ rfl; (with_reducible repeat (first | refine blk_drewN ?_ _ | refine blk_drew ?_ | refine blk_alloc ?_ _)); exact BK181.out) hb); have n2_ := Aside0.mk (below_step (by repeat (first | (with_reducible first | exact HB.out | apply below_alloc | apply pw_below_drewN | apply below_drew1 | refine below_set ?_ GE173.out | refine below_set ?_ GE181.out) | exact HB.out)) hb); clear BK173; clear BK181; clear HB; have BK173 := n0_; have BK181 := n1_; have HB := n2_; clear n0_ n1_ n2_; (try clear hb); (try clear hb2); (try clear hk); (try clear hi)))
                go_meet
                case rel => exact ⟨_, (true), (by first | rfl | (simp; done) | (simp [*]; done)), H', ⟨by first | omega | exact Nat.le_refl _⟩, ⟨by (with_reducible repeat (first | refine blk_drewN ?_ _ | refine blk_drew ?_ | refine blk_alloc ?_ _)); exact BK173.out⟩, ⟨by (with_reducible repeat (first | refine blk_drewN ?_ _ | refine blk_drew ?_ | refine blk_alloc ?_ _)); exact BK181.out⟩, ⟨by repeat (first | (with_reducible first | exact HB.out | apply below_alloc | apply pw_below_drewN | apply below_drew1 | refine below_set ?_ GE173.out | refine below_set ?_ GE181.out) | exact HB.out)⟩⟩
            · replace c18 := Bool.eq_false_iff.mpr c18
              subst c18
              have H1 : (event_Check.j0 k true a0_0 a0_1 a0_2 a0_3 a0_4 a0_5 a0_6 a0_7 a0_8 a0_9 a0_10 a0_11 a0_12 l0_13 a0_14 t174 t175 t176 t177 t178 t179) = some r := by rw [if_neg (show ¬ (false = true) by decide)] at H; exact H
              clear H
              have H := H1
              clear H1
              have H' := Aside0.mk H
              clear H
              have hnb39 := NB181_173.out
              have hnc39 := NB173_181.out
              have hcz40_0 : w8.cell? ⟨gb181, 0, none⟩ = some (.bool false) := bc BK181 0
              have hcz40_1 : w8.cell? ⟨gb181, 1, none⟩ = some (.bool false) := bc BK181 1
              have hcz40_2 : w8.cell? ⟨gb181, 2, none⟩ = some (.bool false) := bc BK181 2
              have hcz40_3 : w8.cell? ⟨gb181, 3, none⟩ = some (.bool false) := bc BK181 3
              have hcz40_4 : w8.cell? ⟨gb181, 4, none⟩ = some (.bool false) := bc BK181 4
              have hcz40_5 : w8.cell? ⟨gb181, 5, none⟩ = some (.bool false) := bc BK181 5
              have hfz40_0 := blk_frozen BK181.out 0
              have hfz40_1 := blk_frozen BK181.out 1
              have hfz40_2 := blk_frozen BK181.out 2
              have hfz40_3 := blk_frozen BK181.out 3
              have hfz40_4 := blk_frozen BK181.out 4
              have hfz40_5 := blk_frozen BK181.out 5
              have hcz41_0 : w8.cell? ⟨gb173, 0, none⟩ = some (.int .i64 a0_0) := bc BK173 0
              have hcz41_1 : w8.cell? ⟨gb173, 1, none⟩ = some (.string a0_1) := bc BK173 1
              have hcz41_2 : w8.cell? ⟨gb173, 2, none⟩ = some (.string a0_2) := bc BK173 2
              have hcz41_3 : w8.cell? ⟨gb173, 3, none⟩ = some (.int .i64 a0_3) := bc BK173 3
              have hcz41_4 : w8.cell? ⟨gb173, 4, none⟩ = some (.int .i64 a0_4) := bc BK173 4
              have hcz41_5 : w8.cell? ⟨gb173, 5, none⟩ = some (.string a0_5) := bc BK173 5
              have hcz41_6 : w8.cell? ⟨gb173, 6, none⟩ = some (.int .i64 a0_6) := bc BK173 6
              have hcz41_7 : w8.cell? ⟨gb173, 7, none⟩ = some (.int .i64 a0_7) := bc BK173 7
              have hcz41_8 : w8.cell? ⟨gb173, 8, none⟩ = some (.int .i64 a0_8) := bc BK173 8
              have hcz41_9 : w8.cell? ⟨gb173, 9, none⟩ = some (.int .i64 a0_9) := bc BK173 9
              have hcz41_10 : w8.cell? ⟨gb173, 10, none⟩ = some (.int .i64 a0_10) := bc BK173 10
              have hcz41_11 : w8.cell? ⟨gb173, 11, none⟩ = some (.string a0_11) := bc BK173 11
              have hcz41_12 : w8.cell? ⟨gb173, 12, none⟩ = some (.string a0_12) := bc BK173 12
              have hcz41_13 : w8.cell? ⟨gb173, 13, none⟩ = some (.slice A0_13 l0_13.length c0_13) := bc BK173 13
              have hcz41_14 : w8.cell? ⟨gb173, 14, none⟩ = some (.int .i64 a0_14) := bc BK173 14
              have hfz41_0 := blk_frozen BK173.out 0
              have hfz41_1 := blk_frozen BK173.out 1
              have hfz41_2 := blk_frozen BK173.out 2
              have hfz41_3 := blk_frozen BK173.out 3
              have hfz41_4 := blk_frozen BK173.out 4
              have hfz41_5 := blk_frozen BK173.out 5
              have hfz41_6 := blk_frozen BK173.out 6
              have hfz41_7 := blk_frozen BK173.out 7
              have hfz41_8 := blk_frozen BK173.out 8
              have hfz41_9 := blk_frozen BK173.out 9
              have hfz41_10 := blk_frozen BK173.out 10
              have hfz41_11 := blk_frozen BK173.out 11
              have hfz41_12 := blk_frozen BK173.out 12
              have hfz41_13 := blk_frozen BK173.out 13
              have hfz41_14 := blk_frozen BK173.out 14
              go_wp2_with (first | ((with_reducible refine gate_callee (f := 31) rfl ?_); refine goesL_ (some 17) rfl rfl Tryd.func31 (by kernel_rfl) rfl #[.bool t174, .int .i64 a0_3] rfl (by (try simp only [List.map_toArray, List.map_cons, List.map_nil]); first | done | rfl | (simp only [List.length_drop, List.length_take]; rfl)) ?_; (with_reducible refine (event_none_int.calls t174 a0_3 true _ A11.out).mono ?_); rintro e w' ⟨rfl, ⟨nd, rfl⟩⟩; refine ⟨_, rfl, ?_⟩) | (go_at_call 32; (with_reducible refine (event_none_string.calls t175 a0_1 true _ A13.out).mono ?_); rintro e w' ⟨rfl, ⟨nd, rfl⟩⟩) | (go_at_call 32; (with_reducible refine (event_none_string.calls t176 a0_2 true _ A15.out).mono ?_); rintro e w' ⟨rfl, ⟨nd, rfl⟩⟩) | (go_at_call 31; (with_reducible refine (event_none_int.calls t177 a0_4 false _ A17.out).mono ?_); rintro e w' ⟨rfl, ⟨nd, rfl⟩⟩))
              go_meet
              case rel => exact ⟨_, (true), (by first | rfl | (simp; done) | (simp [*]; done)), H', ⟨by first | omega | exact Nat.le_refl _⟩, ⟨by (repeat ((with_reducible repeat (first | refine blk_drewN ?_ _ | refine blk_drew ?_ | refine blk_alloc ?_ _)); with_reducible refine blk_far ?_ NB173_181.out _)); (with_reducible repeat (first | refine blk_drewN ?_ _ | refine blk_drew ?_ | refine blk_alloc ?_ _)); exact BK173.out⟩, ⟨by (with_reducible repeat (first | refine blk_drewN ?_ _ | refine blk_drew ?_ | refine blk_alloc ?_ _)); refine blk_put (cs := #[.bool t174, .bool t175, .bool t176, .bool t177, .bool t178, .bool false]) ?_ 5 _ rfl; (with_reducible repeat (first | refine blk_drewN ?_ _ | refine blk_drew ?_ | refine blk_alloc ?_ _)); refine blk_put (cs := #[.bool t174, .bool t175, .bool t176, .bool t177, .bool false, .bool false]) ?_ 4 _ rfl; (with_reducible repeat (first | refine blk_drewN ?_ _ | refine blk_drew ?_ | refine blk_alloc ?_ _)); refine blk_put (cs := #[.bool t174, .bool t175, .bool t176, .bool false, .bool false, .bool false]) ?_ 3 _ rfl; (with_reducible repeat (first | refine blk_drewN ?_ _ | refine blk_drew ?_ | refine blk_alloc ?_ _)); refine blk_put (cs := #[.bool t174, .bool t175, .bool false, .bool false, .bool false, .bool false]) ?_ 2 _ rfl; (with_reducible repeat (first | refine blk_drewN ?_ _ | refine blk_drew ?_ | refine blk_alloc ?_ _)); refine blk_put (cs := #[.bool t174, .bool false, .bool false, .bool false, .bool false, .bool false]) ?_ 1 _ rfl; (with_reducible repeat (first | refine blk_drewN ?_ _ | refine blk_drew ?_ | refine blk_alloc ?_ _)); refine blk_put (cs := #[.bool false, .bool false, .bool false, .bool false, .bool false, .bool false]) ?_ 0 _ rfl; (with_reducible repeat (first | refine blk_drewN ?_ _ | refine blk_drew ?_ | refine blk_alloc ?_ _)); exact BK181.out⟩, ⟨by repeat (first | (with_reducible first | exact HB.out | apply below_alloc | apply pw_below_drewN | apply below_drew1 | refine below_set ?_ GE173.out | refine below_set ?_ GE181.out) | exact HB.out)⟩⟩
          · replace c16 := Bool.eq_false_iff.mpr c16
            subst c16
            have H1 : (event_Check.j0 k true a0_0 a0_1 a0_2 a0_3 a0_4 a0_5 a0_6 a0_7 a0_8 a0_9 a0_10 a0_11 a0_12 l0_13 a0_14 t174 t175 t176 t177 t178 t179) = some r := by rw [if_neg (show ¬ (false = true) by decide)] at H; exact H
            clear H
            have H := H1
            clear H1
            have H' := Aside0.mk H
            clear H
            have hnb42 := NB181_173.out
            have hnc42 := NB173_181.out
            have hcz43_0 : w8.cell? ⟨gb181, 0, none⟩ = some (.bool false) := bc BK181 0
            have hcz43_1 : w8.cell? ⟨gb181, 1, none⟩ = some (.bool false) := bc BK181 1
            have hcz43_2 : w8.cell? ⟨gb181, 2, none⟩ = some (.bool false) := bc BK181 2
            have hcz43_3 : w8.cell? ⟨gb181, 3, none⟩ = some (.bool false) := bc BK181 3
            have hcz43_4 : w8.cell? ⟨gb181, 4, none⟩ = some (.bool false) := bc BK181 4
            have hcz43_5 : w8.cell? ⟨gb181, 5, none⟩ = some (.bool false) := bc BK181 5
            have hfz43_0 := blk_frozen BK181.out 0
            have hfz43_1 := blk_frozen BK181.out 1
            have hfz43_2 := blk_frozen BK181.out 2
            have hfz43_3 := blk_frozen BK181.out 3
            have hfz43_4 := blk_frozen BK181.out 4
            have hfz43_5 := blk_frozen BK181.out 5
            have hcz44_0 : w8.cell? ⟨gb173, 0, none⟩ = some (.int .i64 a0_0) := bc BK173 0
            have hcz44_1 : w8.cell? ⟨gb173, 1, none⟩ = some (.string a0_1) := bc BK173 1
            have hcz44_2 : w8.cell? ⟨gb173, 2, none⟩ = some (.string a0_2) := bc BK173 2
            have hcz44_3 : w8.cell? ⟨gb173, 3, none⟩ = some (.int .i64 a0_3) := bc BK173 3
            have hcz44_4 : w8.cell? ⟨gb173, 4, none⟩ = some (.int .i64 a0_4) := bc BK173 4
            have hcz44_5 : w8.cell? ⟨gb173, 5, none⟩ = some (.string a0_5) := bc BK173 5
            have hcz44_6 : w8.cell? ⟨gb173, 6, none⟩ = some (.int .i64 a0_6) := bc BK173 6
            have hcz44_7 : w8.cell? ⟨gb173, 7, none⟩ = some (.int .i64 a0_7) := bc BK173 7
            have hcz44_8 : w8.cell? ⟨gb173, 8, none⟩ = some (.int .i64 a0_8) := bc BK173 8
            have hcz44_9 : w8.cell? ⟨gb173, 9, none⟩ = some (.int .i64 a0_9) := bc BK173 9
            have hcz44_10 : w8.cell? ⟨gb173, 10, none⟩ = some (.int .i64 a0_10) := bc BK173 10
            have hcz44_11 : w8.cell? ⟨gb173, 11, none⟩ = some (.string a0_11) := bc BK173 11
            have hcz44_12 : w8.cell? ⟨gb173, 12, none⟩ = some (.string a0_12) := bc BK173 12
            have hcz44_13 : w8.cell? ⟨gb173, 13, none⟩ = some (.slice A0_13 l0_13.length c0_13) := bc BK173 13
            have hcz44_14 : w8.cell? ⟨gb173, 14, none⟩ = some (.int .i64 a0_14) := bc BK173 14
            have hfz44_0 := blk_frozen BK173.out 0
            have hfz44_1 := blk_frozen BK173.out 1
            have hfz44_2 := blk_frozen BK173.out 2
            have hfz44_3 := blk_frozen BK173.out 3
            have hfz44_4 := blk_frozen BK173.out 4
            have hfz44_5 := blk_frozen BK173.out 5
            have hfz44_6 := blk_frozen BK173.out 6
            have hfz44_7 := blk_frozen BK173.out 7
            have hfz44_8 := blk_frozen BK173.out 8
            have hfz44_9 := blk_frozen BK173.out 9
            have hfz44_10 := blk_frozen BK173.out 10
            have hfz44_11 := blk_frozen BK173.out 11
            have hfz44_12 := blk_frozen BK173.out 12
            have hfz44_13 := blk_frozen BK173.out 13
            have hfz44_14 := blk_frozen BK173.out 14
            go_wp2_with (first | ((with_reducible refine gate_callee (f := 31) rfl ?_); refine goesL_ (some 17) rfl rfl Tryd.func31 (by kernel_rfl) rfl #[.bool t174, .int .i64 a0_3] rfl (by (try simp only [List.map_toArray, List.map_cons, List.map_nil]); first | done | rfl | (simp only [List.length_drop, List.length_take]; rfl)) ?_; (with_reducible refine (event_none_int.calls t174 a0_3 true _ A11.out).mono ?_); rintro e w' ⟨rfl, ⟨nd, rfl⟩⟩; refine ⟨_, rfl, ?_⟩) | (go_at_call 32; (with_reducible refine (event_none_string.calls t175 a0_1 true _ A13.out).mono ?_); rintro e w' ⟨rfl, ⟨nd, rfl⟩⟩) | (go_at_call 32; (with_reducible refine (event_none_string.calls t176 a0_2 false _ A15.out).mono ?_); rintro e w' ⟨rfl, ⟨nd, rfl⟩⟩))
            go_meet
            case rel => exact ⟨_, (true), (by first | rfl | (simp; done) | (simp [*]; done)), H', ⟨by first | omega | exact Nat.le_refl _⟩, ⟨by (repeat ((with_reducible repeat (first | refine blk_drewN ?_ _ | refine blk_drew ?_ | refine blk_alloc ?_ _)); with_reducible refine blk_far ?_ NB173_181.out _)); (with_reducible repeat (first | refine blk_drewN ?_ _ | refine blk_drew ?_ | refine blk_alloc ?_ _)); exact BK173.out⟩, ⟨by (with_reducible repeat (first | refine blk_drewN ?_ _ | refine blk_drew ?_ | refine blk_alloc ?_ _)); refine blk_put (cs := #[.bool t174, .bool t175, .bool t176, .bool t177, .bool t178, .bool false]) ?_ 5 _ rfl; (with_reducible repeat (first | refine blk_drewN ?_ _ | refine blk_drew ?_ | refine blk_alloc ?_ _)); refine blk_put (cs := #[.bool t174, .bool t175, .bool t176, .bool t177, .bool false, .bool false]) ?_ 4 _ rfl; (with_reducible repeat (first | refine blk_drewN ?_ _ | refine blk_drew ?_ | refine blk_alloc ?_ _)); refine blk_put (cs := #[.bool t174, .bool t175, .bool t176, .bool false, .bool false, .bool false]) ?_ 3 _ rfl; (with_reducible repeat (first | refine blk_drewN ?_ _ | refine blk_drew ?_ | refine blk_alloc ?_ _)); refine blk_put (cs := #[.bool t174, .bool t175, .bool false, .bool false, .bool false, .bool false]) ?_ 2 _ rfl; (with_reducible repeat (first | refine blk_drewN ?_ _ | refine blk_drew ?_ | refine blk_alloc ?_ _)); refine blk_put (cs := #[.bool t174, .bool false, .bool false, .bool false, .bool false, .bool false]) ?_ 1 _ rfl; (with_reducible repeat (first | refine blk_drewN ?_ _ | refine blk_drew ?_ | refine blk_alloc ?_ _)); refine blk_put (cs := #[.bool false, .bool false, .bool false, .bool false, .bool false, .bool false]) ?_ 0 _ rfl; (with_reducible repeat (first | refine blk_drewN ?_ _ | refine blk_drew ?_ | refine blk_alloc ?_ _)); exact BK181.out⟩, ⟨by repeat (first | (with_reducible first | exact HB.out | apply below_alloc | apply pw_below_drewN | apply below_drew1 | refine below_set ?_ GE173.out | refine below_set ?_ GE181.out) | exact HB.out)⟩⟩
        · replace c14 := Bool.eq_false_iff.mpr c14
          subst c14
          have H1 : (event_Check.j0 k true a0_0 a0_1 a0_2 a0_3 a0_4 a0_5 a0_6 a0_7 a0_8 a0_9 a0_10 a0_11 a0_12 l0_13 a0_14 t174 t175 t176 t177 t178 t179) = some r := by rw [if_neg (show ¬ (false = true) by decide)] at H; exact H
          clear H
          have H := H1
          clear H1
          have H' := Aside0.mk H
          clear H
          have hnb45 := NB181_173.out
          have hnc45 := NB173_181.out
          have hcz46_0 : w8.cell? ⟨gb181, 0, none⟩ = some (.bool false) := bc BK181 0
          have hcz46_1 : w8.cell? ⟨gb181, 1, none⟩ = some (.bool false) := bc BK181 1
          have hcz46_2 : w8.cell? ⟨gb181, 2, none⟩ = some (.bool false) := bc BK181 2
          have hcz46_3 : w8.cell? ⟨gb181, 3, none⟩ = some (.bool false) := bc BK181 3
          have hcz46_4 : w8.cell? ⟨gb181, 4, none⟩ = some (.bool false) := bc BK181 4
          have hcz46_5 : w8.cell? ⟨gb181, 5, none⟩ = some (.bool false) := bc BK181 5
          have hfz46_0 := blk_frozen BK181.out 0
          have hfz46_1 := blk_frozen BK181.out 1
          have hfz46_2 := blk_frozen BK181.out 2
          have hfz46_3 := blk_frozen BK181.out 3
          have hfz46_4 := blk_frozen BK181.out 4
          have hfz46_5 := blk_frozen BK181.out 5
          have hcz47_0 : w8.cell? ⟨gb173, 0, none⟩ = some (.int .i64 a0_0) := bc BK173 0
          have hcz47_1 : w8.cell? ⟨gb173, 1, none⟩ = some (.string a0_1) := bc BK173 1
          have hcz47_2 : w8.cell? ⟨gb173, 2, none⟩ = some (.string a0_2) := bc BK173 2
          have hcz47_3 : w8.cell? ⟨gb173, 3, none⟩ = some (.int .i64 a0_3) := bc BK173 3
          have hcz47_4 : w8.cell? ⟨gb173, 4, none⟩ = some (.int .i64 a0_4) := bc BK173 4
          have hcz47_5 : w8.cell? ⟨gb173, 5, none⟩ = some (.string a0_5) := bc BK173 5
          have hcz47_6 : w8.cell? ⟨gb173, 6, none⟩ = some (.int .i64 a0_6) := bc BK173 6
          have hcz47_7 : w8.cell? ⟨gb173, 7, none⟩ = some (.int .i64 a0_7) := bc BK173 7
          have hcz47_8 : w8.cell? ⟨gb173, 8, none⟩ = some (.int .i64 a0_8) := bc BK173 8
          have hcz47_9 : w8.cell? ⟨gb173, 9, none⟩ = some (.int .i64 a0_9) := bc BK173 9
          have hcz47_10 : w8.cell? ⟨gb173, 10, none⟩ = some (.int .i64 a0_10) := bc BK173 10
          have hcz47_11 : w8.cell? ⟨gb173, 11, none⟩ = some (.string a0_11) := bc BK173 11
          have hcz47_12 : w8.cell? ⟨gb173, 12, none⟩ = some (.string a0_12) := bc BK173 12
          have hcz47_13 : w8.cell? ⟨gb173, 13, none⟩ = some (.slice A0_13 l0_13.length c0_13) := bc BK173 13
          have hcz47_14 : w8.cell? ⟨gb173, 14, none⟩ = some (.int .i64 a0_14) := bc BK173 14
          have hfz47_0 := blk_frozen BK173.out 0
          have hfz47_1 := blk_frozen BK173.out 1
          have hfz47_2 := blk_frozen BK173.out 2
          have hfz47_3 := blk_frozen BK173.out 3
          have hfz47_4 := blk_frozen BK173.out 4
          have hfz47_5 := blk_frozen BK173.out 5
          have hfz47_6 := blk_frozen BK173.out 6
          have hfz47_7 := blk_frozen BK173.out 7
          have hfz47_8 := blk_frozen BK173.out 8
          have hfz47_9 := blk_frozen BK173.out 9
          have hfz47_10 := blk_frozen BK173.out 10
          have hfz47_11 := blk_frozen BK173.out 11
          have hfz47_12 := blk_frozen BK173.out 12
          have hfz47_13 := blk_frozen BK173.out 13
          have hfz47_14 := blk_frozen BK173.out 14
          go_wp2_with (first | ((with_reducible refine gate_callee (f := 31) rfl ?_); refine goesL_ (some 17) rfl rfl Tryd.func31 (by kernel_rfl) rfl #[.bool t174, .int .i64 a0_3] rfl (by (try simp only [List.map_toArray, List.map_cons, List.map_nil]); first | done | rfl | (simp only [List.length_drop, List.length_take]; rfl)) ?_; (with_reducible refine (event_none_int.calls t174 a0_3 true _ A11.out).mono ?_); rintro e w' ⟨rfl, ⟨nd, rfl⟩⟩; refine ⟨_, rfl, ?_⟩) | (go_at_call 32; (with_reducible refine (event_none_string.calls t175 a0_1 false _ A13.out).mono ?_); rintro e w' ⟨rfl, ⟨nd, rfl⟩⟩))
          go_meet
          case rel => exact ⟨_, (true), (by first | rfl | (simp; done) | (simp [*]; done)), H', ⟨by first | omega | exact Nat.le_refl _⟩, ⟨by (repeat ((with_reducible repeat (first | refine blk_drewN ?_ _ | refine blk_drew ?_ | refine blk_alloc ?_ _)); with_reducible refine blk_far ?_ NB173_181.out _)); (with_reducible repeat (first | refine blk_drewN ?_ _ | refine blk_drew ?_ | refine blk_alloc ?_ _)); exact BK173.out⟩, ⟨by (with_reducible repeat (first | refine blk_drewN ?_ _ | refine blk_drew ?_ | refine blk_alloc ?_ _)); refine blk_put (cs := #[.bool t174, .bool t175, .bool t176, .bool t177, .bool t178, .bool false]) ?_ 5 _ rfl; (with_reducible repeat (first | refine blk_drewN ?_ _ | refine blk_drew ?_ | refine blk_alloc ?_ _)); refine blk_put (cs := #[.bool t174, .bool t175, .bool t176, .bool t177, .bool false, .bool false]) ?_ 4 _ rfl; (with_reducible repeat (first | refine blk_drewN ?_ _ | refine blk_drew ?_ | refine blk_alloc ?_ _)); refine blk_put (cs := #[.bool t174, .bool t175, .bool t176, .bool false, .bool false, .bool false]) ?_ 3 _ rfl; (with_reducible repeat (first | refine blk_drewN ?_ _ | refine blk_drew ?_ | refine blk_alloc ?_ _)); refine blk_put (cs := #[.bool t174, .bool t175, .bool false, .bool false, .bool false, .bool false]) ?_ 2 _ rfl; (with_reducible repeat (first | refine blk_drewN ?_ _ | refine blk_drew ?_ | refine blk_alloc ?_ _)); refine blk_put (cs := #[.bool t174, .bool false, .bool false, .bool false, .bool false, .bool false]) ?_ 1 _ rfl; (with_reducible repeat (first | refine blk_drewN ?_ _ | refine blk_drew ?_ | refine blk_alloc ?_ _)); refine blk_put (cs := #[.bool false, .bool false, .bool false, .bool false, .bool false, .bool false]) ?_ 0 _ rfl; (with_reducible repeat (first | refine blk_drewN ?_ _ | refine blk_drew ?_ | refine blk_alloc ?_ _)); exact BK181.out⟩, ⟨by repeat (first | (with_reducible first | exact HB.out | apply below_alloc | apply pw_below_drewN | apply below_drew1 | refine below_set ?_ GE173.out | refine below_set ?_ GE181.out) | exact HB.out)⟩⟩
      · replace c12 := Bool.eq_false_iff.mpr c12
        subst c12
        have H1 : (event_Check.j0 k true a0_0 a0_1 a0_2 a0_3 a0_4 a0_5 a0_6 a0_7 a0_8 a0_9 a0_10 a0_11 a0_12 l0_13 a0_14 t174 t175 t176 t177 t178 t179) = some r := by rw [if_neg (show ¬ (false = true) by decide)] at H; exact H
        clear H
        have H := H1
        clear H1
        have H' := Aside0.mk H
        clear H
        have hnb48 := NB181_173.out
        have hnc48 := NB173_181.out
        have hcz49_0 : w8.cell? ⟨gb181, 0, none⟩ = some (.bool false) := bc BK181 0
        have hcz49_1 : w8.cell? ⟨gb181, 1, none⟩ = some (.bool false) := bc BK181 1
        have hcz49_2 : w8.cell? ⟨gb181, 2, none⟩ = some (.bool false) := bc BK181 2
        have hcz49_3 : w8.cell? ⟨gb181, 3, none⟩ = some (.bool false) := bc BK181 3
        have hcz49_4 : w8.cell? ⟨gb181, 4, none⟩ = some (.bool false) := bc BK181 4
        have hcz49_5 : w8.cell? ⟨gb181, 5, none⟩ = some (.bool false) := bc BK181 5
        have hfz49_0 := blk_frozen BK181.out 0
        have hfz49_1 := blk_frozen BK181.out 1
        have hfz49_2 := blk_frozen BK181.out 2
        have hfz49_3 := blk_frozen BK181.out 3
        have hfz49_4 := blk_frozen BK181.out 4
        have hfz49_5 := blk_frozen BK181.out 5
        have hcz50_0 : w8.cell? ⟨gb173, 0, none⟩ = some (.int .i64 a0_0) := bc BK173 0
        have hcz50_1 : w8.cell? ⟨gb173, 1, none⟩ = some (.string a0_1) := bc BK173 1
        have hcz50_2 : w8.cell? ⟨gb173, 2, none⟩ = some (.string a0_2) := bc BK173 2
        have hcz50_3 : w8.cell? ⟨gb173, 3, none⟩ = some (.int .i64 a0_3) := bc BK173 3
        have hcz50_4 : w8.cell? ⟨gb173, 4, none⟩ = some (.int .i64 a0_4) := bc BK173 4
        have hcz50_5 : w8.cell? ⟨gb173, 5, none⟩ = some (.string a0_5) := bc BK173 5
        have hcz50_6 : w8.cell? ⟨gb173, 6, none⟩ = some (.int .i64 a0_6) := bc BK173 6
        have hcz50_7 : w8.cell? ⟨gb173, 7, none⟩ = some (.int .i64 a0_7) := bc BK173 7
        have hcz50_8 : w8.cell? ⟨gb173, 8, none⟩ = some (.int .i64 a0_8) := bc BK173 8
        have hcz50_9 : w8.cell? ⟨gb173, 9, none⟩ = some (.int .i64 a0_9) := bc BK173 9
        have hcz50_10 : w8.cell? ⟨gb173, 10, none⟩ = some (.int .i64 a0_10) := bc BK173 10
        have hcz50_11 : w8.cell? ⟨gb173, 11, none⟩ = some (.string a0_11) := bc BK173 11
        have hcz50_12 : w8.cell? ⟨gb173, 12, none⟩ = some (.string a0_12) := bc BK173 12
        have hcz50_13 : w8.cell? ⟨gb173, 13, none⟩ = some (.slice A0_13 l0_13.length c0_13) := bc BK173 13
        have hcz50_14 : w8.cell? ⟨gb173, 14, none⟩ = some (.int .i64 a0_14) := bc BK173 14
        have hfz50_0 := blk_frozen BK173.out 0
        have hfz50_1 := blk_frozen BK173.out 1
        have hfz50_2 := blk_frozen BK173.out 2
        have hfz50_3 := blk_frozen BK173.out 3
        have hfz50_4 := blk_frozen BK173.out 4
        have hfz50_5 := blk_frozen BK173.out 5
        have hfz50_6 := blk_frozen BK173.out 6
        have hfz50_7 := blk_frozen BK173.out 7
        have hfz50_8 := blk_frozen BK173.out 8
        have hfz50_9 := blk_frozen BK173.out 9
        have hfz50_10 := blk_frozen BK173.out 10
        have hfz50_11 := blk_frozen BK173.out 11
        have hfz50_12 := blk_frozen BK173.out 12
        have hfz50_13 := blk_frozen BK173.out 13
        have hfz50_14 := blk_frozen BK173.out 14
        go_wp2_with (first | ((with_reducible refine gate_callee (f := 31) rfl ?_); refine goesL_ (some 17) rfl rfl Tryd.func31 (by kernel_rfl) rfl #[.bool t174, .int .i64 a0_3] rfl (by (try simp only [List.map_toArray, List.map_cons, List.map_nil]); first | done | rfl | (simp only [List.length_drop, List.length_take]; rfl)) ?_; (with_reducible refine (event_none_int.calls t174 a0_3 false _ A11.out).mono ?_); rintro e w' ⟨rfl, ⟨nd, rfl⟩⟩; refine ⟨_, rfl, ?_⟩))
        go_meet
        case rel => exact ⟨_, (true), (by first | rfl | (simp; done) | (simp [*]; done)), H', ⟨by first | omega | exact Nat.le_refl _⟩, ⟨by (repeat ((with_reducible repeat (first | refine blk_drewN ?_ _ | refine blk_drew ?_ | refine blk_alloc ?_ _)); with_reducible refine blk_far ?_ NB173_181.out _)); (with_reducible repeat (first | refine blk_drewN ?_ _ | refine blk_drew ?_ | refine blk_alloc ?_ _)); exact BK173.out⟩, ⟨by (with_reducible repeat (first | refine blk_drewN ?_ _ | refine blk_drew ?_ | refine blk_alloc ?_ _)); refine blk_put (cs := #[.bool t174, .bool t175, .bool t176, .bool t177, .bool t178, .bool false]) ?_ 5 _ rfl; (with_reducible repeat (first | refine blk_drewN ?_ _ | refine blk_drew ?_ | refine blk_alloc ?_ _)); refine blk_put (cs := #[.bool t174, .bool t175, .bool t176, .bool t177, .bool false, .bool false]) ?_ 4 _ rfl; (with_reducible repeat (first | refine blk_drewN ?_ _ | refine blk_drew ?_ | refine blk_alloc ?_ _)); refine blk_put (cs := #[.bool t174, .bool t175, .bool t176, .bool false, .bool false, .bool false]) ?_ 3 _ rfl; (with_reducible repeat (first | refine blk_drewN ?_ _ | refine blk_drew ?_ | refine blk_alloc ?_ _)); refine blk_put (cs := #[.bool t174, .bool t175, .bool false, .bool false, .bool false, .bool false]) ?_ 2 _ rfl; (with_reducible repeat (first | refine blk_drewN ?_ _ | refine blk_drew ?_ | refine blk_alloc ?_ _)); refine blk_put (cs := #[.bool t174, .bool false, .bool false, .bool false, .bool false, .bool false]) ?_ 1 _ rfl; (with_reducible repeat (first | refine blk_drewN ?_ _ | refine blk_drew ?_ | refine blk_alloc ?_ _)); refine blk_put (cs := #[.bool false, .bool false, .bool false, .bool false, .bool false, .bool false]) ?_ 0 _ rfl; (with_reducible repeat (first | refine blk_drewN ?_ _ | refine blk_drew ?_ | refine blk_alloc ?_ _)); exact BK181.out⟩, ⟨by repeat (first | (with_reducible first | exact HB.out | apply below_alloc | apply pw_below_drewN | apply below_drew1 | refine below_set ?_ GE173.out | refine below_set ?_ GE181.out) | exact HB.out)⟩⟩
    case rest =>
      clear HC4
      try clear c1
      try clear c2
      try clear p2
      try clear c3
      try clear c4
      try clear c9
      try clear c12
      try clear c14
      try clear c15
      try clear c16
      try clear c18
      try clear c20
      try clear c21
      try clear c22
      try clear c28
      try clear c30
      try clear c31
      try clear c35
      try clear c39
      try clear c42
      try clear c45
      try clear c48
      try clear hcz10_0
      try clear hcz10_1
      try clear hcz10_2
      try clear hcz10_3
      try clear hcz10_4
      try clear hcz10_5
      try clear hcz23_0
      try clear hcz23_1
      try clear hcz23_2
      try clear hcz23_3
      try clear hcz23_4
      try clear hcz23_5
      try clear hcz24_0
      try clear hcz24_1
      try clear hcz24_10
      try clear hcz24_11
      try clear hcz24_12
      try clear hcz24_13
      try clear hcz24_14
      try clear hcz24_2
      try clear hcz24_3
      try clear hcz24_4
      try clear hcz24_5
      try clear hcz24_6
      try clear hcz24_7
      try clear hcz24_8
      try clear hcz24_9
      try clear hcz26_0
      try clear hcz26_1
      try clear hcz26_2
      try clear hcz26_3
      try clear hcz26_4
      try clear hcz26_5
      try clear hcz29_0
      try clear hcz29_1
      try clear hcz29_2
      try clear hcz29_3
      try clear hcz29_4
      try clear hcz29_5
      try clear hcz30_0
      try clear hcz30_1
      try clear hcz30_10
      try clear hcz30_11
      try clear hcz30_12
      try clear hcz30_13
      try clear hcz30_14
      try clear hcz30_2
      try clear hcz30_3
      try clear hcz30_4
      try clear hcz30_5
      try clear hcz30_6
      try clear hcz30_7
      try clear hcz30_8
      try clear hcz30_9
      try clear hcz32_0
      try clear hcz32_1
      try clear hcz32_2
      try clear hcz32_3
      try clear hcz32_4
      try clear hcz32_5
      try clear hcz33_0
      try clear hcz33_1
      try clear hcz33_10
      try clear hcz33_11
      try clear hcz33_12
      try clear hcz33_13
      try clear hcz33_14
      try clear hcz33_2
      try clear hcz33_3
      try clear hcz33_4
      try clear hcz33_5
      try clear hcz33_6
      try clear hcz33_7
      try clear hcz33_8
      try clear hcz33_9
      try clear hcz36_0
      try clear hcz36_1
      try clear hcz36_2
      try clear hcz36_3
      try clear hcz36_4
      try clear hcz36_5
      try clear hcz37_0
      try clear hcz37_1
      try clear hcz37_10
      try clear hcz37_11
      try clear hcz37_12
      try clear hcz37_13
      try clear hcz37_14
      try clear hcz37_2
      try clear hcz37_3
      try clear hcz37_4
      try clear hcz37_5
      try clear hcz37_6
      try clear hcz37_7
      try clear hcz37_8
      try clear hcz37_9
      try clear hcz40_0
      try clear hcz40_1
      try clear hcz40_2
      try clear hcz40_3
      try clear hcz40_4
      try clear hcz40_5
      try clear hcz41_0
      try clear hcz41_1
      try clear hcz41_10
      try clear hcz41_11
      try clear hcz41_12
      try clear hcz41_13
      try clear hcz41_14
      try clear hcz41_2
      try clear hcz41_3
      try clear hcz41_4
      try clear hcz41_5
      try clear hcz41_6
      try clear hcz41_7
      try clear hcz41_8
      try clear hcz41_9
      try clear hcz43_0
      try clear hcz43_1
      try clear hcz43_2
      try clear hcz43_3
      try clear hcz43_4
      try clear hcz43_5
      try clear hcz44_0
      try clear hcz44_1
      try clear hcz44_10
      try clear hcz44_11
      try clear hcz44_12
      try clear hcz44_13
      try clear hcz44_14
      try clear hcz44_2
      try clear hcz44_3
      try clear hcz44_4
      try clear hcz44_5
      try clear hcz44_6
      try clear hcz44_7
      try clear hcz44_8
      try clear hcz44_9
      try clear hcz46_0
      try clear hcz46_1
      try clear hcz46_2
      try clear hcz46_3
      try clear hcz46_4
      try clear hcz46_5
      try clear hcz47_0
      try clear hcz47_1
      try clear hcz47_10
      try clear hcz47_11
      try clear hcz47_12
      try clear hcz47_13
      try clear hcz47_14
      try clear hcz47_2
      try clear hcz47_3
      try clear hcz47_4
      try clear hcz47_5
      try clear hcz47_6
      try clear hcz47_7
      try clear hcz47_8
      try clear hcz47_9
      try clear hcz49_0
      try clear hcz49_1
      try clear hcz49_2
      try clear hcz49_3
      try clear hcz49_4
      try clear hcz49_5
      try clear hcz50_0
      try clear hcz50_1
      try clear hcz50_10
      try clear hcz50_11
      try clear hcz50_12
      try clear hcz50_13
      try clear hcz50_14
      try clear hcz50_2
      try clear hcz50_3
      try clear hcz50_4
      try clear hcz50_5
      try clear hcz50_6
      try clear hcz50_7
      try clear hcz50_8
      try clear hcz50_9
      try clear hcz6_0
      try clear hcz6_1
      try clear hcz6_10
      try clear hcz6_11
      try clear hcz6_12
      try clear hcz6_13
      try clear hcz6_14
      try clear hcz6_2
      try clear hcz6_3
      try clear hcz6_4
      try clear hcz6_5
      try clear hcz6_6
      try clear hcz6_7
      try clear hcz6_8
      try clear hcz6_9
      try clear hfz10_0
      try clear hfz10_1
      try clear hfz10_2
      try clear hfz10_3
      try clear hfz10_4
      try clear hfz10_5
      try clear hfz23_0
      try clear hfz23_1
      try clear hfz23_2
      try clear hfz23_3
      try clear hfz23_4
      try clear hfz23_5
      try clear hfz24_0
      try clear hfz24_1
      try clear hfz24_10
      try clear hfz24_11
      try clear hfz24_12
      try clear hfz24_13
      try clear hfz24_14
      try clear hfz24_2
      try clear hfz24_3
      try clear hfz24_4
      try clear hfz24_5
      try clear hfz24_6
      try clear hfz24_7
      try clear hfz24_8
      try clear hfz24_9
      try clear hfz26_0
      try clear hfz26_1
      try clear hfz26_2
      try clear hfz26_3
      try clear hfz26_4
      try clear hfz26_5
      try clear hfz29_0
      try clear hfz29_1
      try clear hfz29_2
      try clear hfz29_3
      try clear hfz29_4
      try clear hfz29_5
      try clear hfz30_0
      try clear hfz30_1
      try clear hfz30_10
      try clear hfz30_11
      try clear hfz30_12
      try clear hfz30_13
      try clear hfz30_14
      try clear hfz30_2
      try clear hfz30_3
      try clear hfz30_4
      try clear hfz30_5
      try clear hfz30_6
      try clear hfz30_7
      try clear hfz30_8
      try clear hfz30_9
      try clear hfz32_0
      try clear hfz32_1
      try clear hfz32_2
      try clear hfz32_3
      try clear hfz32_4
      try clear hfz32_5
      try clear hfz33_0
      try clear hfz33_1
      try clear hfz33_10
      try clear hfz33_11
      try clear hfz33_12
      try clear hfz33_13
      try clear hfz33_14
      try clear hfz33_2
      try clear hfz33_3
      try clear hfz33_4
      try clear hfz33_5
      try clear hfz33_6
      try clear hfz33_7
      try clear hfz33_8
      try clear hfz33_9
      try clear hfz36_0
      try clear hfz36_1
      try clear hfz36_2
      try clear hfz36_3
      try clear hfz36_4
      try clear hfz36_5
      try clear hfz37_0
      try clear hfz37_1
      try clear hfz37_10
      try clear hfz37_11
      try clear hfz37_12
      try clear hfz37_13
      try clear hfz37_14
      try clear hfz37_2
      try clear hfz37_3
      try clear hfz37_4
      try clear hfz37_5
      try clear hfz37_6
      try clear hfz37_7
      try clear hfz37_8
      try clear hfz37_9
      try clear hfz40_0
      try clear hfz40_1
      try clear hfz40_2
      try clear hfz40_3
      try clear hfz40_4
      try clear hfz40_5
      try clear hfz41_0
      try clear hfz41_1
      try clear hfz41_10
      try clear hfz41_11
      try clear hfz41_12
      try clear hfz41_13
      try clear hfz41_14
      try clear hfz41_2
      try clear hfz41_3
      try clear hfz41_4
      try clear hfz41_5
      try clear hfz41_6
      try clear hfz41_7
      try clear hfz41_8
      try clear hfz41_9
      try clear hfz43_0
      try clear hfz43_1
      try clear hfz43_2
      try clear hfz43_3
      try clear hfz43_4
      try clear hfz43_5
      try clear hfz44_0
      try clear hfz44_1
      try clear hfz44_10
      try clear hfz44_11
      try clear hfz44_12
      try clear hfz44_13
      try clear hfz44_14
      try clear hfz44_2
      try clear hfz44_3
      try clear hfz44_4
      try clear hfz44_5
      try clear hfz44_6
      try clear hfz44_7
      try clear hfz44_8
      try clear hfz44_9
      try clear hfz46_0
      try clear hfz46_1
      try clear hfz46_2
      try clear hfz46_3
      try clear hfz46_4
      try clear hfz46_5
      try clear hfz47_0
      try clear hfz47_1
      try clear hfz47_10
      try clear hfz47_11
      try clear hfz47_12
      try clear hfz47_13
      try clear hfz47_14
      try clear hfz47_2
      try clear hfz47_3
      try clear hfz47_4
      try clear hfz47_5
      try clear hfz47_6
      try clear hfz47_7
      try clear hfz47_8
      try clear hfz47_9
      try clear hfz49_0
      try clear hfz49_1
      try clear hfz49_2
      try clear hfz49_3
      try clear hfz49_4
      try clear hfz49_5
      try clear hfz50_0
      try clear hfz50_1
      try clear hfz50_10
      try clear hfz50_11
      try clear hfz50_12
      try clear hfz50_13
      try clear hfz50_14
      try clear hfz50_2
      try clear hfz50_3
      try clear hfz50_4
      try clear hfz50_5
      try clear hfz50_6
      try clear hfz50_7
      try clear hfz50_8
      try clear hfz50_9
      try clear hfz6_0
      try clear hfz6_1
      try clear hfz6_10
      try clear hfz6_11
      try clear hfz6_12
      try clear hfz6_13
      try clear hfz6_14
      try clear hfz6_2
      try clear hfz6_3
      try clear hfz6_4
      try clear hfz6_5
      try clear hfz6_6
      try clear hfz6_7
      try clear hfz6_8
      try clear hfz6_9
      obtain ⟨kq, x61_3, rfl, HA, HJ3, BK173, BK181, HB⟩ := hcut
      cases kq with
      | zero => exact absurd HA.out (by simp [event_Check.j0])
      | succ kj3 =>
        have H := HA.out
        clear HA
        simp only [event_Check.j0] at H
        by_cases c51 : x61_3 = true
        · subst c51
          have H1 : (some 2) = some r := by rw [if_pos rfl] at H; exact H
          clear H
          have H := H1
          clear H1
          obtain rfl := Option.some.inj H
          go_wp2
          go_ret
          exact ⟨by first | rfl | (simp [errW_none, errW_some] <;> rfl) | (simp [*, errW_none, errW_some] <;> rfl), by repeat (first | (with_reducible first | exact HB.out | apply below_alloc | apply pw_below_drewN | apply below_drew1 | refine below_set ?_ GE173.out | refine below_set ?_ GE181.out) | exact HB.out)⟩
        · replace c51 := Bool.eq_false_iff.mpr c51
          subst c51
          have H1 : (if t174 = true then ((event_number.f kj3 a0_0 a0_1 a0_2 a0_3 a0_4 a0_5 a0_6 a0_7 a0_8 a0_9 a0_10 a0_11 a0_12 l0_13 a0_14).bind fun t188 => (event_Check.j1 kj3 (!t188) a0_0 a0_1 a0_2 a0_3 a0_4 a0_5 a0_6 a0_7 a0_8 a0_9 a0_10 a0_11 a0_12 l0_13 a0_14 t174 t175 t176 t177 t178 t179)) else (event_Check.j1 kj3 false a0_0 a0_1 a0_2 a0_3 a0_4 a0_5 a0_6 a0_7 a0_8 a0_9 a0_10 a0_11 a0_12 l0_13 a0_14 t174 t175 t176 t177 t178 t179)) = some r := by rw [if_neg (show ¬ (false = true) by decide)] at H; exact H
          clear H
          have H := H1
          clear H1
          have HC52 := Aside0.mk H
          clear H
          go_upto_region 6 with (fail)
          go_cut [62] (fun v62 wc => ∃ (kq : Nat) (x62_51 : Bool), v62 = .bool x62_51 ∧ Aside0 (event_Check.j1 kq x62_51 a0_0 a0_1 a0_2 a0_3 a0_4 a0_5 a0_6 a0_7 a0_8 a0_9 a0_10 a0_11 a0_12 l0_13 a0_14 t174 t175 t176 t177 t178 t179 = some r) ∧ Aside0 (kq ≤ kj3) ∧ Aside0 (wc.heap[gb173]? = some (.cells #[.int .i64 a0_0, .string a0_1, .string a0_2, .int .i64 a0_3, .int .i64 a0_4, .string a0_5, .int .i64 a0_6, .int .i64 a0_7, .int .i64 a0_8, .int .i64 a0_9, .int .i64 a0_10, .string a0_11, .string a0_12, (.slice A0_13 l0_13.length c0_13), .int .i64 a0_14] 28 (0, 0))) ∧ Aside0 (wc.heap[gb181]? = some (.cells #[.bool t174, .bool t175, .bool t176, .bool t177, .bool t178, .bool t179] 66 (0, 0))) ∧ Aside0 (Below w.heap.size w wc))
          case first =>
            have H := HC52.out
            clear HC52
            by_cases c53 : t174 = true
            · subst c53
              have H1 : ((event_number.f kj3 a0_0 a0_1 a0_2 a0_3 a0_4 a0_5 a0_6 a0_7 a0_8 a0_9 a0_10 a0_11 a0_12 l0_13 a0_14).bind fun t188 => (event_Check.j1 kj3 (!t188) a0_0 a0_1 a0_2 a0_3 a0_4 a0_5 a0_6 a0_7 a0_8 a0_9 a0_10 a0_11 a0_12 l0_13 a0_14 true t175 t176 t177 t178 t179)) = some r := by rw [if_pos rfl] at H; exact H
              clear H
              have H := H1
              clear H1
              replace H := Option.bind_eq_some_iff.mp H
              obtain ⟨t188, A540, H⟩ := H
              replace H : (event_Check.j1 kj3 (!t188) a0_0 a0_1 a0_2 a0_3 a0_4 a0_5 a0_6 a0_7 a0_8 a0_9 a0_10 a0_11 a0_12 l0_13 a0_14 true t175 t176 t177 t178 t179) = some r := H
              have A54 := Aside0.mk A540
              clear A540
              have H' := Aside0.mk H
              clear H
              have hnb55 := NB181_173.out
              have hnc55 := NB173_181.out
              have hcz56_0 : wc.cell? ⟨gb181, 0, none⟩ = some (.bool true) := bc BK181 0
              have hcz56_1 : wc.cell? ⟨gb181, 1, none⟩ = some (.bool t175) := bc BK181 1
              have hcz56_2 : wc.cell? ⟨gb181, 2, none⟩ = some (.bool t176) := bc BK181 2
              have hcz56_3 : wc.cell? ⟨gb181, 3, none⟩ = some (.bool t177) := bc BK181 3
              have hcz56_4 : wc.cell? ⟨gb181, 4, none⟩ = some (.bool t178) := bc BK181 4
              have hcz56_5 : wc.cell? ⟨gb181, 5, none⟩ = some (.bool t179) := bc BK181 5
              have hfz56_0 := blk_frozen BK181.out 0
              have hfz56_1 := blk_frozen BK181.out 1
              have hfz56_2 := blk_frozen BK181.out 2
              have hfz56_3 := blk_frozen BK181.out 3
              have hfz56_4 := blk_frozen BK181.out 4
              have hfz56_5 := blk_frozen BK181.out 5
              have hcz57_0 : wc.cell? ⟨gb173, 0, none⟩ = some (.int .i64 a0_0) := bc BK173 0
              have hcz57_1 : wc.cell? ⟨gb173, 1, none⟩ = some (.string a0_1) := bc BK173 1
              have hcz57_2 : wc.cell? ⟨gb173, 2, none⟩ = some (.string a0_2) := bc BK173 2
              have hcz57_3 : wc.cell? ⟨gb173, 3, none⟩ = some (.int .i64 a0_3) := bc BK173 3
              have hcz57_4 : wc.cell? ⟨gb173, 4, none⟩ = some (.int .i64 a0_4) := bc BK173 4
              have hcz57_5 : wc.cell? ⟨gb173, 5, none⟩ = some (.string a0_5) := bc BK173 5
              have hcz57_6 : wc.cell? ⟨gb173, 6, none⟩ = some (.int .i64 a0_6) := bc BK173 6
              have hcz57_7 : wc.cell? ⟨gb173, 7, none⟩ = some (.int .i64 a0_7) := bc BK173 7
              have hcz57_8 : wc.cell? ⟨gb173, 8, none⟩ = some (.int .i64 a0_8) := bc BK173 8
              have hcz57_9 : wc.cell? ⟨gb173, 9, none⟩ = some (.int .i64 a0_9) := bc BK173 9
              have hcz57_10 : wc.cell? ⟨gb173, 10, none⟩ = some (.int .i64 a0_10) := bc BK173 10
              have hcz57_11 : wc.cell? ⟨gb173, 11, none⟩ = some (.string a0_11) := bc BK173 11
              have hcz57_12 : wc.cell? ⟨gb173, 12, none⟩ = some (.string a0_12) := bc BK173 12
              have hcz57_13 : wc.cell? ⟨gb173, 13, none⟩ = some (.slice A0_13 l0_13.length c0_13) := bc BK173 13
              have hcz57_14 : wc.cell? ⟨gb173, 14, none⟩ = some (.int .i64 a0_14) := bc BK173 14
              have hfz57_0 := blk_frozen BK173.out 0
              have hfz57_1 := blk_frozen BK173.out 1
              have hfz57_2 := blk_frozen BK173.out 2
              have hfz57_3 := blk_frozen BK173.out 3
              have hfz57_4 := blk_frozen BK173.out 4
              have hfz57_5 := blk_frozen BK173.out 5
              have hfz57_6 := blk_frozen BK173.out 6
              have hfz57_7 := blk_frozen BK173.out 7
              have hfz57_8 := blk_frozen BK173.out 8
              have hfz57_9 := blk_frozen BK173.out 9
              have hfz57_10 := blk_frozen BK173.out 10
              have hfz57_11 := blk_frozen BK173.out 11
              have hfz57_12 := blk_frozen BK173.out 12
              have hfz57_13 := blk_frozen BK173.out 13
              have hfz57_14 := blk_frozen BK173.out 14
              go_wp2_with (first | (go_at_call 35; (with_reducible refine (event_number.calls kj3 a0_0 a0_1 a0_2 a0_3 a0_4 a0_5 a0_6 a0_7 a0_8 a0_9 a0_10 a0_11 a0_12 _ _ l0_13 a0_14 t188 _ ?side1 ?side2 A54.out).mono ?_); (case side1 => repeat (first | exact (Kd.C_below HR0_13.out HB.out) | (with_reducible refine Kd.C_alloc ?_ _) | (with_reducible refine Kd.C_drewN ?_ _) | (with_reducible refine Kd.C_drew ?_))); (case side2 => exact HC0_13.out); rintro e w58 ⟨rfl, hb⟩; have n0_ := Aside0.mk (blk_below (g := gb173) (pk BK173) hb); have n1_ := Aside0.mk (blk_below (g := gb181) (pk BK181) hb); have n2_ := Aside0.mk (below_step (by repeat (first | (with_reducible first | exact HB.out | apply below_alloc | apply pw_below_drewN | apply below_drew1 | refine below_set ?_ GE173.out | refine below_set ?_ GE181.out) | exact HB.out)) hb); clear BK173; clear BK181; clear HB; have BK173 := n0_; have BK181 := n1_; have HB := n2_; clear n0_ n1_ n2_; (try clear hb); (try clear hb2); (try clear hk); (try clear hi)))
              go_meet
              case rel => exact ⟨_, (!t188), (by first | rfl | (simp; done) | (simp [*]; done)), H', ⟨by have := HJ3.out; first | omega | exact Nat.le_refl _⟩, ⟨by (with_reducible repeat (first | refine blk_drewN ?_ _ | refine blk_drew ?_ | refine blk_alloc ?_ _)); exact BK173.out⟩, ⟨by (with_reducible repeat (first | refine blk_drewN ?_ _ | refine blk_drew ?_ | refine blk_alloc ?_ _)); exact BK181.out⟩, ⟨by repeat (first | (with_reducible first | exact HB.out | apply below_alloc | apply pw_below_drewN | apply below_drew1 | refine below_set ?_ GE173.out | refine below_set ?_ GE181.out) | exact HB.out)⟩⟩
            · replace c53 := Bool.eq_false_iff.mpr c53
              subst c53
              have H1 : (event_Check.j1 kj3 false a0_0 a0_1 a0_2 a0_3 a0_4 a0_5 a0_6 a0_7 a0_8 a0_9 a0_10 a0_11 a0_12 l0_13 a0_14 false t175 t176 t177 t178 t179) = some r := by rw [if_neg (show ¬ (false = true) by decide)] at H; exact H
              clear H
              have H := H1
              clear H1
              have H' := Aside0.mk H
              clear H
              have hnb59 := NB181_173.out
              have hnc59 := NB173_181.out
              have hcz60_0 : wc.cell? ⟨gb181, 0, none⟩ = some (.bool false) := bc BK181 0
              have hcz60_1 : wc.cell? ⟨gb181, 1, none⟩ = some (.bool t175) := bc BK181 1
              have hcz60_2 : wc.cell? ⟨gb181, 2, none⟩ = some (.bool t176) := bc BK181 2
              have hcz60_3 : wc.cell? ⟨gb181, 3, none⟩ = some (.bool t177) := bc BK181 3
              have hcz60_4 : wc.cell? ⟨gb181, 4, none⟩ = some (.bool t178) := bc BK181 4
              have hcz60_5 : wc.cell? ⟨gb181, 5, none⟩ = some (.bool t179) := bc BK181 5
              have hfz60_0 := blk_frozen BK181.out 0
              have hfz60_1 := blk_frozen BK181.out 1
              have hfz60_2 := blk_frozen BK181.out 2
              have hfz60_3 := blk_frozen BK181.out 3
              have hfz60_4 := blk_frozen BK181.out 4
              have hfz60_5 := blk_frozen BK181.out 5
              go_wp2
              go_meet
              case rel => exact ⟨_, (false), (by first | rfl | (simp; done) | (simp [*]; done)), H', ⟨by have := HJ3.out; first | omega | exact Nat.le_refl _⟩, ⟨by (with_reducible repeat (first | refine blk_drewN ?_ _ | refine blk_drew ?_ | refine blk_alloc ?_ _)); exact BK173.out⟩, ⟨by (with_reducible repeat (first | refine blk_drewN ?_ _ | refine blk_drew ?_ | refine blk_alloc ?_ _)); exact BK181.out⟩, ⟨by repeat (first | (with_reducible first | exact HB.out | apply below_alloc | apply pw_below_drewN | apply below_drew1 | refine below_set ?_ GE173.out | refine below_set ?_ GE181.out) | exact HB.out)⟩⟩
          case rest =>
            clear HC52
            try clear c1
            try clear c2
            try clear p2
            try clear c3
            try clear c4
            try clear c5
            try clear c9
            try clear c12
            try clear c14
            try clear c15
            try clear c16
            try clear c18
            try clear c20
            try clear c21
            try clear c22
            try clear c28
            try clear c30
            try clear c31
            try clear c35
            try clear c39
            try clear c42
            try clear c45
            try clear c48
            try clear c51
            try clear c53
            try clear c55
            try clear c59
            try clear hcz10_0
            try clear hcz10_1
            try clear hcz10_2
            try clear hcz10_3
            try clear hcz10_4
            try clear hcz10_5
            try clear hcz23_0
            try clear hcz23_1
            try clear hcz23_2
            try clear hcz23_3
            try clear hcz23_4
            try clear hcz23_5
            try clear hcz24_0
            try clear hcz24_1
            try clear hcz24_10
            try clear hcz24_11
            try clear hcz24_12
            try clear hcz24_13
            try clear hcz24_14
            try clear hcz24_2
            try clear hcz24_3
            try clear hcz24_4
            try clear hcz24_5
            try clear hcz24_6
            try clear hcz24_7
            try clear hcz24_8
            try clear hcz24_9
            try clear hcz26_0
            try clear hcz26_1
            try clear hcz26_2
            try clear hcz26_3
            try clear hcz26_4
            try clear hcz26_5
            try clear hcz29_0
            try clear hcz29_1
            try clear hcz29_2
            try clear hcz29_3
            try clear hcz29_4
            try clear hcz29_5
            try clear hcz30_0
            try clear hcz30_1
            try clear hcz30_10
            try clear hcz30_11
            try clear hcz30_12
            try clear hcz30_13
            try clear hcz30_14
            try clear hcz30_2
            try clear hcz30_3
            try clear hcz30_4
            try clear hcz30_5
            try clear hcz30_6
            try clear hcz30_7
            try clear hcz30_8
            try clear hcz30_9
            try clear hcz32_0
            try clear hcz32_1
            try clear hcz32_2
            try clear hcz32_3
            try clear hcz32_4
            try clear hcz32_5
            try clear hcz33_0
            try clear hcz33_1
            try clear hcz33_10
            try clear hcz33_11
            try clear hcz33_12
            try clear hcz33_13
            try clear hcz33_14
            try clear hcz33_2
            try clear hcz33_3
            try clear hcz33_4
            try clear hcz33_5
            try clear hcz33_6
            try clear hcz33_7
            try clear hcz33_8
            try clear hcz33_9
            try clear hcz36_0
            try clear hcz36_1
            try clear hcz36_2
            try clear hcz36_3
            try clear hcz36_4
            try clear hcz36_5
            try clear hcz37_0
            try clear hcz37_1
            try clear hcz37_10
            try clear hcz37_11
            try clear hcz37_12
            try clear hcz37_13
            try clear hcz37_14
            try clear hcz37_2
            try clear hcz37_3
            try clear hcz37_4
            try clear hcz37_5
            try clear hcz37_6
            try clear hcz37_7
            try clear hcz37_8
            try clear hcz37_9
            try clear hcz40_0
            try clear hcz40_1
            try clear hcz40_2
            try clear hcz40_3
            try clear hcz40_4
            try clear hcz40_5
            try clear hcz41_0
            try clear hcz41_1
            try clear hcz41_10
            try clear hcz41_11
            try clear hcz41_12
            try clear hcz41_13
            try clear hcz41_14
            try clear hcz41_2
            try clear hcz41_3
            try clear hcz41_4
            try clear hcz41_5
            try clear hcz41_6
            try clear hcz41_7
            try clear hcz41_8
            try clear hcz41_9
            try clear hcz43_0
            try clear hcz43_1
            try clear hcz43_2
            try clear hcz43_3
            try clear hcz43_4
            try clear hcz43_5
            try clear hcz44_0
            try clear hcz44_1
            try clear hcz44_10
            try clear hcz44_11
            try clear hcz44_12
            try clear hcz44_13
            try clear hcz44_14
            try clear hcz44_2
            try clear hcz44_3
            try clear hcz44_4
            try clear hcz44_5
            try clear hcz44_6
            try clear hcz44_7
            try clear hcz44_8
            try clear hcz44_9
            try clear hcz46_0
            try clear hcz46_1
            try clear hcz46_2
            try clear hcz46_3
            try clear hcz46_4
            try clear hcz46_5
            try clear hcz47_0
            try clear hcz47_1
            try clear hcz47_10
            try clear hcz47_11
            try clear hcz47_12
            try clear hcz47_13
            try clear hcz47_14
            try clear hcz47_2
            try clear hcz47_3
            try clear hcz47_4
            try clear hcz47_5
            try clear hcz47_6
            try clear hcz47_7
            try clear hcz47_8
            try clear hcz47_9
            try clear hcz49_0
            try clear hcz49_1
            try clear hcz49_2
            try clear hcz49_3
            try clear hcz49_4
            try clear hcz49_5
            try clear hcz50_0
            try clear hcz50_1
            try clear hcz50_10
            try clear hcz50_11
            try clear hcz50_12
            try clear hcz50_13
            try clear hcz50_14
            try clear hcz50_2
            try clear hcz50_3
            try clear hcz50_4
            try clear hcz50_5
            try clear hcz50_6
            try clear hcz50_7
            try clear hcz50_8
            try clear hcz50_9
            try clear hcz56_0
            try clear hcz56_1
            try clear hcz56_2
            try clear hcz56_3
            try clear hcz56_4
            try clear hcz56_5
            try clear hcz57_0
            try clear hcz57_1
            try clear hcz57_10
            try clear hcz57_11
            try clear hcz57_12
            try clear hcz57_13
            try clear hcz57_14
            try clear hcz57_2
            try clear hcz57_3
            try clear hcz57_4
            try clear hcz57_5
            try clear hcz57_6
            try clear hcz57_7
            try clear hcz57_8
            try clear hcz57_9
            try clear hcz60_0
            try clear hcz60_1
            try clear hcz60_2
            try clear hcz60_3
            try clear hcz60_4
            try clear hcz60_5
            try clear hcz6_0
            try clear hcz6_1
            try clear hcz6_10
            try clear hcz6_11
            try clear hcz6_12
            try clear hcz6_13
            try clear hcz6_14
            try clear hcz6_2
            try clear hcz6_3
            try clear hcz6_4
            try clear hcz6_5
            try clear hcz6_6
            try clear hcz6_7
            try clear hcz6_8
            try clear hcz6_9
            try clear hfz10_0
            try clear hfz10_1
            try clear hfz10_2
            try clear hfz10_3
            try clear hfz10_4
            try clear hfz10_5
            try clear hfz23_0
            try clear hfz23_1
            try clear hfz23_2
            try clear hfz23_3
            try clear hfz23_4
            try clear hfz23_5
            try clear hfz24_0
            try clear hfz24_1
            try clear hfz24_10
            try clear hfz24_11
            try clear hfz24_12
            try clear hfz24_13
            try clear hfz24_14
            try clear hfz24_2
            try clear hfz24_3
            try clear hfz24_4
            try clear hfz24_5
            try clear hfz24_6
            try clear hfz24_7
            try clear hfz24_8
            try clear hfz24_9
            try clear hfz26_0
            try clear hfz26_1
            try clear hfz26_2
            try clear hfz26_3
            try clear hfz26_4
            try clear hfz26_5
            try clear hfz29_0
            try clear hfz29_1
            try clear hfz29_2
            try clear hfz29_3
            try clear hfz29_4
            try clear hfz29_5
            try clear hfz30_0
            try clear hfz30_1
            try clear hfz30_10
            try clear hfz30_11
            try clear hfz30_12
            try clear hfz30_13
            try clear hfz30_14
            try clear hfz30_2
            try clear hfz30_3
            try clear hfz30_4
            try clear hfz30_5
            try clear hfz30_6
            try clear hfz30_7
            try clear hfz30_8
            try clear hfz30_9
            try clear hfz32_0
            try clear hfz32_1
            try clear hfz32_2
            try clear hfz32_3
            try clear hfz32_4
            try clear hfz32_5
            try clear hfz33_0
            try clear hfz33_1
            try clear hfz33_10
            try clear hfz33_11
            try clear hfz33_12
            try clear hfz33_13
            try clear hfz33_14
            try clear hfz33_2
            try clear hfz33_3
            try clear hfz33_4
            try clear hfz33_5
            try clear hfz33_6
            try clear hfz33_7
            try clear hfz33_8
            try clear hfz33_9
            try clear hfz36_0
            try clear hfz36_1
            try clear hfz36_2
            try clear hfz36_3
            try clear hfz36_4
            try clear hfz36_5
            try clear hfz37_0
            try clear hfz37_1
            try clear hfz37_10
            try clear hfz37_11
            try clear hfz37_12
            try clear hfz37_13
            try clear hfz37_14
            try clear hfz37_2
            try clear hfz37_3
            try clear hfz37_4
            try clear hfz37_5
            try clear hfz37_6
            try clear hfz37_7
            try clear hfz37_8
            try clear hfz37_9
            try clear hfz40_0
            try clear hfz40_1
            try clear hfz40_2
            try clear hfz40_3
            try clear hfz40_4
            try clear hfz40_5
            try clear hfz41_0
            try clear hfz41_1
            try clear hfz41_10
            try clear hfz41_11
            try clear hfz41_12
            try clear hfz41_13
            try clear hfz41_14
            try clear hfz41_2
            try clear hfz41_3
            try clear hfz41_4
            try clear hfz41_5
            try clear hfz41_6
            try clear hfz41_7
            try clear hfz41_8
            try clear hfz41_9
            try clear hfz43_0
            try clear hfz43_1
            try clear hfz43_2
            try clear hfz43_3
            try clear hfz43_4
            try clear hfz43_5
            try clear hfz44_0
            try clear hfz44_1
            try clear hfz44_10
            try clear hfz44_11
            try clear hfz44_12
            try clear hfz44_13
            try clear hfz44_14
            try clear hfz44_2
            try clear hfz44_3
            try clear hfz44_4
            try clear hfz44_5
            try clear hfz44_6
            try clear hfz44_7
            try clear hfz44_8
            try clear hfz44_9
            try clear hfz46_0
            try clear hfz46_1
            try clear hfz46_2
            try clear hfz46_3
            try clear hfz46_4
            try clear hfz46_5
            try clear hfz47_0
            try clear hfz47_1
            try clear hfz47_10
            try clear hfz47_11
            try clear hfz47_12
            try clear hfz47_13
            try clear hfz47_14
            try clear hfz47_2
            try clear hfz47_3
            try clear hfz47_4
            try clear hfz47_5
            try clear hfz47_6
            try clear hfz47_7
            try clear hfz47_8
            try clear hfz47_9
            try clear hfz49_0
            try clear hfz49_1
            try clear hfz49_2
            try clear hfz49_3
            try clear hfz49_4
            try clear hfz49_5
            try clear hfz50_0
            try clear hfz50_1
            try clear hfz50_10
            try clear hfz50_11
            try clear hfz50_12
            try clear hfz50_13
            try clear hfz50_14
            try clear hfz50_2
            try clear hfz50_3
            try clear hfz50_4
            try clear hfz50_5
            try clear hfz50_6
            try clear hfz50_7
            try clear hfz50_8
            try clear hfz50_9
            try clear hfz56_0
            try clear hfz56_1
            try clear hfz56_2
            try clear hfz56_3
            try clear hfz56_4
            try clear hfz56_5
            try clear hfz57_0
            try clear hfz57_1
            try clear hfz57_10
            try clear hfz57_11
            try clear hfz57_12
            try clear hfz57_13
            try clear hfz57_14
            try clear hfz57_2
            try clear hfz57_3
            try clear hfz57_4
            try clear hfz57_5
            try clear hfz57_6
            try clear hfz57_7
            try clear hfz57_8
            try clear hfz57_9
            try clear hfz60_0
            try clear hfz60_1
            try clear hfz60_2
            try clear hfz60_3
            try clear hfz60_4
            try clear hfz60_5
            try clear hfz6_0
            try clear hfz6_1
            try clear hfz6_10
            try clear hfz6_11
            try clear hfz6_12
            try clear hfz6_13
            try clear hfz6_14
            try clear hfz6_2
            try clear hfz6_3
            try clear hfz6_4
            try clear hfz6_5
            try clear hfz6_6
            try clear hfz6_7
            try clear hfz6_8
            try clear hfz6_9
            try clear p2
            obtain ⟨kq, x62_51, rfl, HA, HJ51, BK173, BK181, HB⟩ := hcut
            cases kq with
            | zero => exact absurd HA.out (by simp [event_Check.j1])
            | succ kj51 =>
              have H := HA.out
              clear HA
              simp only [event_Check.j1] at H
              by_cases c61 : x62_51 = true
              · subst c61
                have H1 : (some 2) = some r := by rw [if_pos rfl] at H; exact H
                clear H
                have H := H1
                clear H1
                obtain rfl := Option.some.inj H
                go_wp2
                go_ret
                exact ⟨by first | rfl | (simp [errW_none, errW_some] <;> rfl) | (simp [*, errW_none, errW_some] <;> rfl), by repeat (first | (with_reducible first | exact HB.out | apply below_alloc | apply pw_below_drewN | apply below_drew1 | refine below_set ?_ GE173.out | refine below_set ?_ GE181.out) | exact HB.out)⟩
              · replace c61 := Bool.eq_false_iff.mpr c61
                subst c61
                have H1 : (if t175 = true then ((event_named.f kj51 a0_0 a0_1 a0_2 a0_3 a0_4 a0_5 a0_6 a0_7 a0_8 a0_9 a0_10 a0_11 a0_12 l0_13 a0_14).bind fun t189 => (event_Check.j2 kj51 (!t189) a0_0 a0_1 a0_2 a0_3 a0_4 a0_5 a0_6 a0_7 a0_8 a0_9 a0_10 a0_11 a0_12 l0_13 a0_14 t174 t175 t176 t177 t178 t179)) else (event_Check.j2 kj51 false a0_0 a0_1 a0_2 a0_3 a0_4 a0_5 a0_6 a0_7 a0_8 a0_9 a0_10 a0_11 a0_12 l0_13 a0_14 t174 t175 t176 t177 t178 t179)) = some r := by rw [if_neg (show ¬ (false = true) by decide)] at H; exact H
                clear H
                have H := H1
                clear H1
                have HC62 := Aside0.mk H
                clear H
                go_upto_region 8 with (fail)
                go_cut [70] (fun v70 wc => ∃ (kq : Nat) (x70_61 : Bool), v70 = .bool x70_61 ∧ Aside0 (event_Check.j2 kq x70_61 a0_0 a0_1 a0_2 a0_3 a0_4 a0_5 a0_6 a0_7 a0_8 a0_9 a0_10 a0_11 a0_12 l0_13 a0_14 t174 t175 t176 t177 t178 t179 = some r) ∧ Aside0 (kq ≤ kj51) ∧ Aside0 (wc.heap[gb173]? = some (.cells #[.int .i64 a0_0, .string a0_1, .string a0_2, .int .i64 a0_3, .int .i64 a0_4, .string a0_5, .int .i64 a0_6, .int .i64 a0_7, .int .i64 a0_8, .int .i64 a0_9, .int .i64 a0_10, .string a0_11, .string a0_12, (.slice A0_13 l0_13.length c0_13), .int .i64 a0_14] 28 (0, 0))) ∧ Aside0 (wc.heap[gb181]? = some (.cells #[.bool t174, .bool t175, .bool t176, .bool t177, .bool t178, .bool t179] 66 (0, 0))) ∧ Aside0 (Below w.heap.size w wc))
                case first =>
                  have H := HC62.out
                  clear HC62
                  by_cases c63 : t175 = true
                  · subst c63
                    have H1 : ((event_named.f kj51 a0_0 a0_1 a0_2 a0_3 a0_4 a0_5 a0_6 a0_7 a0_8 a0_9 a0_10 a0_11 a0_12 l0_13 a0_14).bind fun t189 => (event_Check.j2 kj51 (!t189) a0_0 a0_1 a0_2 a0_3 a0_4 a0_5 a0_6 a0_7 a0_8 a0_9 a0_10 a0_11 a0_12 l0_13 a0_14 t174 true t176 t177 t178 t179)) = some r := by rw [if_pos rfl] at H; exact H
                    clear H
                    have H := H1
                    clear H1
                    replace H := Option.bind_eq_some_iff.mp H
                    obtain ⟨t189, A640, H⟩ := H
                    replace H : (event_Check.j2 kj51 (!t189) a0_0 a0_1 a0_2 a0_3 a0_4 a0_5 a0_6 a0_7 a0_8 a0_9 a0_10 a0_11 a0_12 l0_13 a0_14 t174 true t176 t177 t178 t179) = some r := H
                    have A64 := Aside0.mk A640
                    clear A640
                    have H' := Aside0.mk H
                    clear H
                    have hnb65 := NB181_173.out
                    have hnc65 := NB173_181.out
                    have hcz66_0 : wc.cell? ⟨gb181, 0, none⟩ = some (.bool t174) := bc BK181 0
                    have hcz66_1 : wc.cell? ⟨gb181, 1, none⟩ = some (.bool true) := bc BK181 1
                    have hcz66_2 : wc.cell? ⟨gb181, 2, none⟩ = some (.bool t176) := bc BK181 2
                    have hcz66_3 : wc.cell? ⟨gb181, 3, none⟩ = some (.bool t177) := bc BK181 3
                    have hcz66_4 : wc.cell? ⟨gb181, 4, none⟩ = some (.bool t178) := bc BK181 4
                    have hcz66_5 : wc.cell? ⟨gb181, 5, none⟩ = some (.bool t179) := bc BK181 5
                    have hfz66_0 := blk_frozen BK181.out 0
                    have hfz66_1 := blk_frozen BK181.out 1
                    have hfz66_2 := blk_frozen BK181.out 2
                    have hfz66_3 := blk_frozen BK181.out 3
                    have hfz66_4 := blk_frozen BK181.out 4
                    have hfz66_5 := blk_frozen BK181.out 5
                    have hcz67_0 : wc.cell? ⟨gb173, 0, none⟩ = some (.int .i64 a0_0) := bc BK173 0
                    have hcz67_1 : wc.cell? ⟨gb173, 1, none⟩ = some (.string a0_1) := bc BK173 1
                    have hcz67_2 : wc.cell? ⟨gb173, 2, none⟩ = some (.string a0_2) := bc BK173 2
                    have hcz67_3 : wc.cell? ⟨gb173, 3, none⟩ = some (.int .i64 a0_3) := bc BK173 3
                    have hcz67_4 : wc.cell? ⟨gb173, 4, none⟩ = some (.int .i64 a0_4) := bc BK173 4
                    have hcz67_5 : wc.cell? ⟨gb173, 5, none⟩ = some (.string a0_5) := bc BK173 5
                    have hcz67_6 : wc.cell? ⟨gb173, 6, none⟩ = some (.int .i64 a0_6) := bc BK173 6
                    have hcz67_7 : wc.cell? ⟨gb173, 7, none⟩ = some (.int .i64 a0_7) := bc BK173 7
                    have hcz67_8 : wc.cell? ⟨gb173, 8, none⟩ = some (.int .i64 a0_8) := bc BK173 8
                    have hcz67_9 : wc.cell? ⟨gb173, 9, none⟩ = some (.int .i64 a0_9) := bc BK173 9
                    have hcz67_10 : wc.cell? ⟨gb173, 10, none⟩ = some (.int .i64 a0_10) := bc BK173 10
                    have hcz67_11 : wc.cell? ⟨gb173, 11, none⟩ = some (.string a0_11) := bc BK173 11
                    have hcz67_12 : wc.cell? ⟨gb173, 12, none⟩ = some (.string a0_12) := bc BK173 12
                    have hcz67_13 : wc.cell? ⟨gb173, 13, none⟩ = some (.slice A0_13 l0_13.length c0_13) := bc BK173 13
                    have hcz67_14 : wc.cell? ⟨gb173, 14, none⟩ = some (.int .i64 a0_14) := bc BK173 14
                    have hfz67_0 := blk_frozen BK173.out 0
                    have hfz67_1 := blk_frozen BK173.out 1
                    have hfz67_2 := blk_frozen BK173.out 2
                    have hfz67_3 := blk_frozen BK173.out 3
                    have hfz67_4 := blk_frozen BK173.out 4
                    have hfz67_5 := blk_frozen BK173.out 5
                    have hfz67_6 := blk_frozen BK173.out 6
                    have hfz67_7 := blk_frozen BK173.out 7
                    have hfz67_8 := blk_frozen BK173.out 8
                    have hfz67_9 := blk_frozen BK173.out 9
                    have hfz67_10 := blk_frozen BK173.out 10
                    have hfz67_11 := blk_frozen BK173.out 11
                    have hfz67_12 := blk_frozen BK173.out 12
                    have hfz67_13 := blk_frozen BK173.out 13
                    have hfz67_14 := blk_frozen BK173.out 14
                    go_wp2_with (first | (go_at_call 36; (with_reducible refine (event_named.calls kj51 a0_0 a0_1 a0_2 a0_3 a0_4 a0_5 a0_6 a0_7 a0_8 a0_9 a0_10 a0_11 a0_12 _ _ l0_13 a0_14 t189 _ ?side3 ?side1 ?side2 A64.out).mono ?_); (case side1 => repeat (first | exact (Kd.C_below HR0_13.out HB.out) | (with_reducible refine Kd.C_alloc ?_ _) | (with_reducible refine Kd.C_drewN ?_ _) | (with_reducible refine Kd.C_drew ?_))); (case side2 => exact HC0_13.out); (case side3 => first | exact hLd_.out | exact hLd_ | exact ⟨LaidW.below hLd_.out (by repeat (first | (with_reducible first | exact HB.out | apply below_alloc | apply pw_below_drewN | apply below_drew1 | refine below_set ?_ GE173.out | refine below_set ?_ GE181.out) | exact HB.out))⟩ | exact ⟨LaidW.below hLd_.out (by repeat (first | exact Below.refl _ _ | apply below_alloc | apply pw_below_drewN | apply below_drew1))⟩); rintro e w68 ⟨rfl, hb⟩; have n0_ := Aside0.mk (blk_below (g := gb173) (pk BK173) hb); have n1_ := Aside0.mk (blk_below (g := gb181) (pk BK181) hb); have n2_ := Aside0.mk (below_step (by repeat (first | (with_reducible first | exact HB.out | apply below_alloc | apply pw_below_drewN | apply below_drew1 | refine below_set ?_ GE173.out | refine below_set ?_ GE181.out) | exact HB.out)) hb); clear BK173; clear BK181; clear HB; have BK173 := n0_; have BK181 := n1_; have HB := n2_; clear n0_ n1_ n2_; (try clear hb); (try clear hb2); (try clear hk); (try clear hi)))
                    go_meet
                    case rel => exact ⟨_, (!t189), (by first | rfl | (simp; done) | (simp [*]; done)), H', ⟨by have := HJ3.out; have := HJ51.out; first | omega | exact Nat.le_refl _⟩, ⟨by (with_reducible repeat (first | refine blk_drewN ?_ _ | refine blk_drew ?_ | refine blk_alloc ?_ _)); exact BK173.out⟩, ⟨by (with_reducible repeat (first | refine blk_drewN ?_ _ | refine blk_drew ?_ | refine blk_alloc ?_ _)); exact BK181.out⟩, ⟨by repeat (first | (with_reducible first | exact HB.out | apply below_alloc | apply pw_below_drewN | apply below_drew1 | refine below_set ?_ GE173.out | refine below_set ?_ GE181.out) | exact HB.out)⟩⟩
                  · replace c63 := Bool.eq_false_iff.mpr c63
                    subst c63
                    have H1 : (event_Check.j2 kj51 false a0_0 a0_1 a0_2 a0_3 a0_4 a0_5 a0_6 a0_7 a0_8 a0_9 a0_10 a0_11 a0_12 l0_13 a0_14 t174 false t176 t177 t178 t179) = some r := by rw [if_neg (show ¬ (false = true) by decide)] at H; exact H
                    clear H
                    have H := H1
                    clear H1
                    have H' := Aside0.mk H
                    clear H
                    have hnb69 := NB181_173.out
                    have hnc69 := NB173_181.out
                    have hcz70_0 : wc.cell? ⟨gb181, 0, none⟩ = some (.bool t174) := bc BK181 0
                    have hcz70_1 : wc.cell? ⟨gb181, 1, none⟩ = some (.bool false) := bc BK181 1
                    have hcz70_2 : wc.cell? ⟨gb181, 2, none⟩ = some (.bool t176) := bc BK181 2
                    have hcz70_3 : wc.cell? ⟨gb181, 3, none⟩ = some (.bool t177) := bc BK181 3
                    have hcz70_4 : wc.cell? ⟨gb181, 4, none⟩ = some (.bool t178) := bc BK181 4
                    have hcz70_5 : wc.cell? ⟨gb181, 5, none⟩ = some (.bool t179) := bc BK181 5
                    have hfz70_0 := blk_frozen BK181.out 0
                    have hfz70_1 := blk_frozen BK181.out 1
                    have hfz70_2 := blk_frozen BK181.out 2
                    have hfz70_3 := blk_frozen BK181.out 3
                    have hfz70_4 := blk_frozen BK181.out 4
                    have hfz70_5 := blk_frozen BK181.out 5
                    go_wp2
                    go_meet
                    case rel => exact ⟨_, (false), (by first | rfl | (simp; done) | (simp [*]; done)), H', ⟨by have := HJ3.out; have := HJ51.out; first | omega | exact Nat.le_refl _⟩, ⟨by (with_reducible repeat (first | refine blk_drewN ?_ _ | refine blk_drew ?_ | refine blk_alloc ?_ _)); exact BK173.out⟩, ⟨by (with_reducible repeat (first | refine blk_drewN ?_ _ | refine blk_drew ?_ | refine blk_alloc ?_ _)); exact BK181.out⟩, ⟨by repeat (first | (with_reducible first | exact HB.out | apply below_alloc | apply pw_below_drewN | apply below_drew1 | refine below_set ?_ GE173.out | refine below_set ?_ GE181.out) | exact HB.out)⟩⟩
                case rest =>
                  clear HC62
                  try clear c1
                  try clear c2
                  try clear p2
                  try clear c3
                  try clear c4
                  try clear c5
                  try clear c6
                  try clear c9
                  try clear c12
                  try clear c14
                  try clear c15
                  try clear c16
                  try clear c18
                  try clear c20
                  try clear c21
                  try clear c22
                  try clear c28
                  try clear c30
                  try clear c31
                  try clear c35
                  try clear c39
                  try clear c42
                  try clear c45
                  try clear c48
                  try clear c51
                  try clear c53
                  try clear c55
                  try clear c59
                  try clear c61
                  try clear c63
                  try clear c65
                  try clear c69
                  try clear hcz10_0
                  try clear hcz10_1
                  try clear hcz10_2
                  try clear hcz10_3
                  try clear hcz10_4
                  try clear hcz10_5
                  try clear hcz23_0
                  try clear hcz23_1
                  try clear hcz23_2
                  try clear hcz23_3
                  try clear hcz23_4
                  try clear hcz23_5
                  try clear hcz24_0
                  try clear hcz24_1
                  try clear hcz24_10
                  try clear hcz24_11
                  try clear hcz24_12
                  try clear hcz24_13
                  try clear hcz24_14
                  try clear hcz24_2
                  try clear hcz24_3
                  try clear hcz24_4
                  try clear hcz24_5
                  try clear hcz24_6
                  try clear hcz24_7
                  try clear hcz24_8
                  try clear hcz24_9
                  try clear hcz26_0
                  try clear hcz26_1
                  try clear hcz26_2
                  try clear hcz26_3
                  try clear hcz26_4
                  try clear hcz26_5
                  try clear hcz29_0
                  try clear hcz29_1
                  try clear hcz29_2
                  try clear hcz29_3
                  try clear hcz29_4
                  try clear hcz29_5
                  try clear hcz30_0
                  try clear hcz30_1
                  try clear hcz30_10
                  try clear hcz30_11
                  try clear hcz30_12
                  try clear hcz30_13
                  try clear hcz30_14
                  try clear hcz30_2
                  try clear hcz30_3
                  try clear hcz30_4
                  try clear hcz30_5
                  try clear hcz30_6
                  try clear hcz30_7
                  try clear hcz30_8
                  try clear hcz30_9
                  try clear hcz32_0
                  try clear hcz32_1
                  try clear hcz32_2
                  try clear hcz32_3
                  try clear hcz32_4
                  try clear hcz32_5
                  try clear hcz33_0
                  try clear hcz33_1
                  try clear hcz33_10
                  try clear hcz33_11
                  try clear hcz33_12
                  try clear hcz33_13
                  try clear hcz33_14
                  try clear hcz33_2
                  try clear hcz33_3
                  try clear hcz33_4
                  try clear hcz33_5
                  try clear hcz33_6
                  try clear hcz33_7
                  try clear hcz33_8
                  try clear hcz33_9
                  try clear hcz36_0
                  try clear hcz36_1
                  try clear hcz36_2
                  try clear hcz36_3
                  try clear hcz36_4
                  try clear hcz36_5
                  try clear hcz37_0
                  try clear hcz37_1
                  try clear hcz37_10
                  try clear hcz37_11
                  try clear hcz37_12
                  try clear hcz37_13
                  try clear hcz37_14
                  try clear hcz37_2
                  try clear hcz37_3
                  try clear hcz37_4
                  try clear hcz37_5
                  try clear hcz37_6
                  try clear hcz37_7
                  try clear hcz37_8
                  try clear hcz37_9
                  try clear hcz40_0
                  try clear hcz40_1
                  try clear hcz40_2
                  try clear hcz40_3
                  try clear hcz40_4
                  try clear hcz40_5
                  try clear hcz41_0
                  try clear hcz41_1
                  try clear hcz41_10
                  try clear hcz41_11
                  try clear hcz41_12
                  try clear hcz41_13
                  try clear hcz41_14
                  try clear hcz41_2
                  try clear hcz41_3
                  try clear hcz41_4
                  try clear hcz41_5
                  try clear hcz41_6
                  try clear hcz41_7
                  try clear hcz41_8
                  try clear hcz41_9
                  try clear hcz43_0
                  try clear hcz43_1
                  try clear hcz43_2
                  try clear hcz43_3
                  try clear hcz43_4
                  try clear hcz43_5
                  try clear hcz44_0
                  try clear hcz44_1
                  try clear hcz44_10
                  try clear hcz44_11
                  try clear hcz44_12
                  try clear hcz44_13
                  try clear hcz44_14
                  try clear hcz44_2
                  try clear hcz44_3
                  try clear hcz44_4
                  try clear hcz44_5
                  try clear hcz44_6
                  try clear hcz44_7
                  try clear hcz44_8
                  try clear hcz44_9
                  try clear hcz46_0
                  try clear hcz46_1
                  try clear hcz46_2
                  try clear hcz46_3
                  try clear hcz46_4
                  try clear hcz46_5
                  try clear hcz47_0
                  try clear hcz47_1
                  try clear hcz47_10
                  try clear hcz47_11
                  try clear hcz47_12
                  try clear hcz47_13
                  try clear hcz47_14
                  try clear hcz47_2
                  try clear hcz47_3
                  try clear hcz47_4
                  try clear hcz47_5
                  try clear hcz47_6
                  try clear hcz47_7
                  try clear hcz47_8
                  try clear hcz47_9
                  try clear hcz49_0
                  try clear hcz49_1
                  try clear hcz49_2
                  try clear hcz49_3
                  try clear hcz49_4
                  try clear hcz49_5
                  try clear hcz50_0
                  try clear hcz50_1
                  try clear hcz50_10
                  try clear hcz50_11
                  try clear hcz50_12
                  try clear hcz50_13
                  try clear hcz50_14
                  try clear hcz50_2
                  try clear hcz50_3
                  try clear hcz50_4
                  try clear hcz50_5
                  try clear hcz50_6
                  try clear hcz50_7
                  try clear hcz50_8
                  try clear hcz50_9
                  try clear hcz56_0
                  try clear hcz56_1
                  try clear hcz56_2
                  try clear hcz56_3
                  try clear hcz56_4
                  try clear hcz56_5
                  try clear hcz57_0
                  try clear hcz57_1
                  try clear hcz57_10
                  try clear hcz57_11
                  try clear hcz57_12
                  try clear hcz57_13
                  try clear hcz57_14
                  try clear hcz57_2
                  try clear hcz57_3
                  try clear hcz57_4
                  try clear hcz57_5
                  try clear hcz57_6
                  try clear hcz57_7
                  try clear hcz57_8
                  try clear hcz57_9
                  try clear hcz60_0
                  try clear hcz60_1
                  try clear hcz60_2
                  try clear hcz60_3
                  try clear hcz60_4
                  try clear hcz60_5
                  try clear hcz66_0
                  try clear hcz66_1
                  try clear hcz66_2
                  try clear hcz66_3
                  try clear hcz66_4
                  try clear hcz66_5
                  try clear hcz67_0
                  try clear hcz67_1
                  try clear hcz67_10
                  try clear hcz67_11
                  try clear hcz67_12
                  try clear hcz67_13
                  try clear hcz67_14
                  try clear hcz67_2
                  try clear hcz67_3
                  try clear hcz67_4
                  try clear hcz67_5
                  try clear hcz67_6
                  try clear hcz67_7
                  try clear hcz67_8
                  try clear hcz67_9
                  try clear hcz6_0
                  try clear hcz6_1
                  try clear hcz6_10
                  try clear hcz6_11
                  try clear hcz6_12
                  try clear hcz6_13
                  try clear hcz6_14
                  try clear hcz6_2
                  try clear hcz6_3
                  try clear hcz6_4
                  try clear hcz6_5
                  try clear hcz6_6
                  try clear hcz6_7
                  try clear hcz6_8
                  try clear hcz6_9
                  try clear hcz70_0
                  try clear hcz70_1
                  try clear hcz70_2
                  try clear hcz70_3
                  try clear hcz70_4
                  try clear hcz70_5
                  try clear hfz10_0
                  try clear hfz10_1
                  try clear hfz10_2
                  try clear hfz10_3
                  try clear hfz10_4
                  try clear hfz10_5
                  try clear hfz23_0
                  try clear hfz23_1
                  try clear hfz23_2
                  try clear hfz23_3
                  try clear hfz23_4
                  try clear hfz23_5
                  try clear hfz24_0
                  try clear hfz24_1
                  try clear hfz24_10
                  try clear hfz24_11
                  try clear hfz24_12
                  try clear hfz24_13
                  try clear hfz24_14
                  try clear hfz24_2
                  try clear hfz24_3
                  try clear hfz24_4
                  try clear hfz24_5
                  try clear hfz24_6
                  try clear hfz24_7
                  try clear hfz24_8
                  try clear hfz24_9
                  try clear hfz26_0
                  try clear hfz26_1
                  try clear hfz26_2
                  try clear hfz26_3
                  try clear hfz26_4
                  try clear hfz26_5
                  try clear hfz29_0
                  try clear hfz29_1
                  try clear hfz29_2
                  try clear hfz29_3
                  try clear hfz29_4
                  try clear hfz29_5
                  try clear hfz30_0
                  try clear hfz30_1
                  try clear hfz30_10
                  try clear hfz30_11
                  try clear hfz30_12
                  try clear hfz30_13
                  try clear hfz30_14
                  try clear hfz30_2
                  try clear hfz30_3
                  try clear hfz30_4
                  try clear hfz30_5
                  try clear hfz30_6
                  try clear hfz30_7
                  try clear hfz30_8
                  try clear hfz30_9
                  try clear hfz32_0
                  try clear hfz32_1
                  try clear hfz32_2
                  try clear hfz32_3
                  try clear hfz32_4
                  try clear hfz32_5
                  try clear hfz33_0
                  try clear hfz33_1
                  try clear hfz33_10
                  try clear hfz33_11
                  try clear hfz33_12
                  try clear hfz33_13
                  try clear hfz33_14
                  try clear hfz33_2
                  try clear hfz33_3
                  try clear hfz33_4
                  try clear hfz33_5
                  try clear hfz33_6
                  try clear hfz33_7
                  try clear hfz33_8
                  try clear hfz33_9
                  try clear hfz36_0
                  try clear hfz36_1
                  try clear hfz36_2
                  try clear hfz36_3
                  try clear hfz36_4
                  try clear hfz36_5
                  try clear hfz37_0
                  try clear hfz37_1
                  try clear hfz37_10
                  try clear hfz37_11
                  try clear hfz37_12
                  try clear hfz37_13
                  try clear hfz37_14
                  try clear hfz37_2
                  try clear hfz37_3
                  try clear hfz37_4
                  try clear hfz37_5
                  try clear hfz37_6
                  try clear hfz37_7
                  try clear hfz37_8
                  try clear hfz37_9
                  try clear hfz40_0
                  try clear hfz40_1
                  try clear hfz40_2
                  try clear hfz40_3
                  try clear hfz40_4
                  try clear hfz40_5
                  try clear hfz41_0
                  try clear hfz41_1
                  try clear hfz41_10
                  try clear hfz41_11
                  try clear hfz41_12
                  try clear hfz41_13
                  try clear hfz41_14
                  try clear hfz41_2
                  try clear hfz41_3
                  try clear hfz41_4
                  try clear hfz41_5
                  try clear hfz41_6
                  try clear hfz41_7
                  try clear hfz41_8
                  try clear hfz41_9
                  try clear hfz43_0
                  try clear hfz43_1
                  try clear hfz43_2
                  try clear hfz43_3
                  try clear hfz43_4
                  try clear hfz43_5
                  try clear hfz44_0
                  try clear hfz44_1
                  try clear hfz44_10
                  try clear hfz44_11
                  try clear hfz44_12
                  try clear hfz44_13
                  try clear hfz44_14
                  try clear hfz44_2
                  try clear hfz44_3
                  try clear hfz44_4
                  try clear hfz44_5
                  try clear hfz44_6
                  try clear hfz44_7
                  try clear hfz44_8
                  try clear hfz44_9
                  try clear hfz46_0
                  try clear hfz46_1
                  try clear hfz46_2
                  try clear hfz46_3
                  try clear hfz46_4
                  try clear hfz46_5
                  try clear hfz47_0
                  try clear hfz47_1
                  try clear hfz47_10
                  try clear hfz47_11
                  try clear hfz47_12
                  try clear hfz47_13
                  try clear hfz47_14
                  try clear hfz47_2
                  try clear hfz47_3
                  try clear hfz47_4
                  try clear hfz47_5
                  try clear hfz47_6
                  try clear hfz47_7
                  try clear hfz47_8
                  try clear hfz47_9
                  try clear hfz49_0
                  try clear hfz49_1
                  try clear hfz49_2
                  try clear hfz49_3
                  try clear hfz49_4
                  try clear hfz49_5
                  try clear hfz50_0
                  try clear hfz50_1
                  try clear hfz50_10
                  try clear hfz50_11
                  try clear hfz50_12
                  try clear hfz50_13
                  try clear hfz50_14
                  try clear hfz50_2
                  try clear hfz50_3
                  try clear hfz50_4
                  try clear hfz50_5
                  try clear hfz50_6
                  try clear hfz50_7
                  try clear hfz50_8
                  try clear hfz50_9
                  try clear hfz56_0
                  try clear hfz56_1
                  try clear hfz56_2
                  try clear hfz56_3
                  try clear hfz56_4
                  try clear hfz56_5
                  try clear hfz57_0
                  try clear hfz57_1
                  try clear hfz57_10
                  try clear hfz57_11
                  try clear hfz57_12
                  try clear hfz57_13
                  try clear hfz57_14
                  try clear hfz57_2
                  try clear hfz57_3
                  try clear hfz57_4
                  try clear hfz57_5
                  try clear hfz57_6
                  try clear hfz57_7
                  try clear hfz57_8
                  try clear hfz57_9
                  try clear hfz60_0
                  try clear hfz60_1
                  try clear hfz60_2
                  try clear hfz60_3
                  try clear hfz60_4
                  try clear hfz60_5
                  try clear hfz66_0
                  try clear hfz66_1
                  try clear hfz66_2
                  try clear hfz66_3
                  try clear hfz66_4
                  try clear hfz66_5
                  try clear hfz67_0
                  try clear hfz67_1
                  try clear hfz67_10
                  try clear hfz67_11
                  try clear hfz67_12
                  try clear hfz67_13
                  try clear hfz67_14
                  try clear hfz67_2
                  try clear hfz67_3
                  try clear hfz67_4
                  try clear hfz67_5
                  try clear hfz67_6
                  try clear hfz67_7
                  try clear hfz67_8
                  try clear hfz67_9
                  try clear hfz6_0
                  try clear hfz6_1
                  try clear hfz6_10
                  try clear hfz6_11
                  try clear hfz6_12
                  try clear hfz6_13
                  try clear hfz6_14
                  try clear hfz6_2
                  try clear hfz6_3
                  try clear hfz6_4
                  try clear hfz6_5
                  try clear hfz6_6
                  try clear hfz6_7
                  try clear hfz6_8
                  try clear hfz6_9
                  try clear hfz70_0
                  try clear hfz70_1
                  try clear hfz70_2
                  try clear hfz70_3
                  try clear hfz70_4
                  try clear hfz70_5
                  try clear p2
                  obtain ⟨kq, x70_61, rfl, HA, HJ61, BK173, BK181, HB⟩ := hcut
                  cases kq with
                  | zero => exact absurd HA.out (by simp [event_Check.j2])
                  | succ kj61 =>
                    have H := HA.out
                    clear HA
                    simp only [event_Check.j2] at H
                    by_cases c71 : x70_61 = true
                    · subst c71
                      have H1 : (some 1) = some r := by rw [if_pos rfl] at H; exact H
                      clear H
                      have H := H1
                      clear H1
                      obtain rfl := Option.some.inj H
                      go_wp2
                      go_ret
                      exact ⟨by first | rfl | (simp [errW_none, errW_some] <;> rfl) | (simp [*, errW_none, errW_some] <;> rfl), by repeat (first | (with_reducible first | exact HB.out | apply below_alloc | apply pw_below_drewN | apply below_drew1 | refine below_set ?_ GE173.out | refine below_set ?_ GE181.out) | exact HB.out)⟩
                    · replace c71 := Bool.eq_false_iff.mpr c71
                      subst c71
                      have H1 : (if t176 = true then (if a0_2.toList = ([] : List UInt8) then (event_Check.j3 kj61 false a0_0 a0_1 a0_2 a0_3 a0_4 a0_5 a0_6 a0_7 a0_8 a0_9 a0_10 a0_11 a0_12 l0_13 a0_14 t174 t175 t176 t177 t178 t179) else ((label_Tag.f a0_2).bind fun t190 => (event_Check.j3 kj61 (!t190) a0_0 a0_1 a0_2 a0_3 a0_4 a0_5 a0_6 a0_7 a0_8 a0_9 a0_10 a0_11 a0_12 l0_13 a0_14 t174 t175 t176 t177 t178 t179))) else (event_Check.j3 kj61 false a0_0 a0_1 a0_2 a0_3 a0_4 a0_5 a0_6 a0_7 a0_8 a0_9 a0_10 a0_11 a0_12 l0_13 a0_14 t174 t175 t176 t177 t178 t179)) = some r := by rw [if_neg (show ¬ (false = true) by decide)] at H; exact H
                      clear H
                      have H := H1
                      clear H1
                      have HC72 := Aside0.mk H
                      clear H
                      go_upto_region 10 with (fail)
                      go_cut [78] (fun v78 wc => ∃ (kq : Nat) (x78_71 : Bool), v78 = .bool x78_71 ∧ Aside0 (event_Check.j3 kq x78_71 a0_0 a0_1 a0_2 a0_3 a0_4 a0_5 a0_6 a0_7 a0_8 a0_9 a0_10 a0_11 a0_12 l0_13 a0_14 t174 t175 t176 t177 t178 t179 = some r) ∧ Aside0 (kq ≤ kj61) ∧ Aside0 (wc.heap[gb173]? = some (.cells #[.int .i64 a0_0, .string a0_1, .string a0_2, .int .i64 a0_3, .int .i64 a0_4, .string a0_5, .int .i64 a0_6, .int .i64 a0_7, .int .i64 a0_8, .int .i64 a0_9, .int .i64 a0_10, .string a0_11, .string a0_12, (.slice A0_13 l0_13.length c0_13), .int .i64 a0_14] 28 (0, 0))) ∧ Aside0 (wc.heap[gb181]? = some (.cells #[.bool t174, .bool t175, .bool t176, .bool t177, .bool t178, .bool t179] 66 (0, 0))) ∧ Aside0 (Below w.heap.size w wc))
                      case first =>
                        have H := HC72.out
                        clear HC72
                        by_cases c73 : t176 = true
                        · subst c73
                          have H1 : (if a0_2.toList = ([] : List UInt8) then (event_Check.j3 kj61 false a0_0 a0_1 a0_2 a0_3 a0_4 a0_5 a0_6 a0_7 a0_8 a0_9 a0_10 a0_11 a0_12 l0_13 a0_14 t174 t175 true t177 t178 t179) else ((label_Tag.f a0_2).bind fun t190 => (event_Check.j3 kj61 (!t190) a0_0 a0_1 a0_2 a0_3 a0_4 a0_5 a0_6 a0_7 a0_8 a0_9 a0_10 a0_11 a0_12 l0_13 a0_14 t174 t175 true t177 t178 t179))) = some r := by rw [if_pos rfl] at H; exact H
                          clear H
                          have H := H1
                          clear H1
                          by_cases c74 : a0_2.toList = ([] : List UInt8)
                          · rw [if_pos c74] at H
                            have c74b0 : (a0_2.toList == ([] : List UInt8)) = true := beq_iff_eq.mpr c74
                            have c74b1 : (a0_2.toList != ([] : List UInt8)) = false := bne_eq_false_iff_eq.mpr c74
                            clear c74
                            (first | rw [c74b0] | (simp only [i64_w, i32_w]; rw [c74b0]) | rw [c74b1] | skip)
                            have H' := Aside0.mk H
                            clear H
                            have hnb75 := NB181_173.out
                            have hnc75 := NB173_181.out
                            have hcz76_0 : wc.cell? ⟨gb181, 0, none⟩ = some (.bool t174) := bc BK181 0
                            have hcz76_1 : wc.cell? ⟨gb181, 1, none⟩ = some (.bool t175) := bc BK181 1
                            have hcz76_2 : wc.cell? ⟨gb181, 2, none⟩ = some (.bool true) := bc BK181 2
                            have hcz76_3 : wc.cell? ⟨gb181, 3, none⟩ = some (.bool t177) := bc BK181 3
                            have hcz76_4 : wc.cell? ⟨gb181, 4, none⟩ = some (.bool t178) := bc BK181 4
                            have hcz76_5 : wc.cell? ⟨gb181, 5, none⟩ = some (.bool t179) := bc BK181 5
                            have hfz76_0 := blk_frozen BK181.out 0
                            have hfz76_1 := blk_frozen BK181.out 1
                            have hfz76_2 := blk_frozen BK181.out 2
                            have hfz76_3 := blk_frozen BK181.out 3
                            have hfz76_4 := blk_frozen BK181.out 4
                            have hfz76_5 := blk_frozen BK181.out 5
                            have hcz77_0 : wc.cell? ⟨gb173, 0, none⟩ = some (.int .i64 a0_0) := bc BK173 0
                            have hcz77_1 : wc.cell? ⟨gb173, 1, none⟩ = some (.string a0_1) := bc BK173 1
                            have hcz77_2 : wc.cell? ⟨gb173, 2, none⟩ = some (.string a0_2) := bc BK173 2
                            have hcz77_3 : wc.cell? ⟨gb173, 3, none⟩ = some (.int .i64 a0_3) := bc BK173 3
                            have hcz77_4 : wc.cell? ⟨gb173, 4, none⟩ = some (.int .i64 a0_4) := bc BK173 4
                            have hcz77_5 : wc.cell? ⟨gb173, 5, none⟩ = some (.string a0_5) := bc BK173 5
                            have hcz77_6 : wc.cell? ⟨gb173, 6, none⟩ = some (.int .i64 a0_6) := bc BK173 6
                            have hcz77_7 : wc.cell? ⟨gb173, 7, none⟩ = some (.int .i64 a0_7) := bc BK173 7
                            have hcz77_8 : wc.cell? ⟨gb173, 8, none⟩ = some (.int .i64 a0_8) := bc BK173 8
                            have hcz77_9 : wc.cell? ⟨gb173, 9, none⟩ = some (.int .i64 a0_9) := bc BK173 9
                            have hcz77_10 : wc.cell? ⟨gb173, 10, none⟩ = some (.int .i64 a0_10) := bc BK173 10
                            have hcz77_11 : wc.cell? ⟨gb173, 11, none⟩ = some (.string a0_11) := bc BK173 11
                            have hcz77_12 : wc.cell? ⟨gb173, 12, none⟩ = some (.string a0_12) := bc BK173 12
                            have hcz77_13 : wc.cell? ⟨gb173, 13, none⟩ = some (.slice A0_13 l0_13.length c0_13) := bc BK173 13
                            have hcz77_14 : wc.cell? ⟨gb173, 14, none⟩ = some (.int .i64 a0_14) := bc BK173 14
                            have hfz77_0 := blk_frozen BK173.out 0
                            have hfz77_1 := blk_frozen BK173.out 1
                            have hfz77_2 := blk_frozen BK173.out 2
                            have hfz77_3 := blk_frozen BK173.out 3
                            have hfz77_4 := blk_frozen BK173.out 4
                            have hfz77_5 := blk_frozen BK173.out 5
                            have hfz77_6 := blk_frozen BK173.out 6
                            have hfz77_7 := blk_frozen BK173.out 7
                            have hfz77_8 := blk_frozen BK173.out 8
                            have hfz77_9 := blk_frozen BK173.out 9
                            have hfz77_10 := blk_frozen BK173.out 10
                            have hfz77_11 := blk_frozen BK173.out 11
                            have hfz77_12 := blk_frozen BK173.out 12
                            have hfz77_13 := blk_frozen BK173.out 13
                            have hfz77_14 := blk_frozen BK173.out 14
                            go_wp2
                            go_meet
                            case rel => exact ⟨_, (false), (by first | rfl | (simp; done) | (simp [*]; done)), H', ⟨by have := HJ3.out; have := HJ51.out; have := HJ61.out; first | omega | exact Nat.le_refl _⟩, ⟨by (with_reducible repeat (first | refine blk_drewN ?_ _ | refine blk_drew ?_ | refine blk_alloc ?_ _)); exact BK173.out⟩, ⟨by (with_reducible repeat (first | refine blk_drewN ?_ _ | refine blk_drew ?_ | refine blk_alloc ?_ _)); exact BK181.out⟩, ⟨by repeat (first | (with_reducible first | exact HB.out | apply below_alloc | apply pw_below_drewN | apply below_drew1 | refine below_set ?_ GE173.out | refine below_set ?_ GE181.out) | exact HB.out)⟩⟩
                          · rw [if_neg c74] at H
                            have c74b0 : (a0_2.toList == ([] : List UInt8)) = false := beq_eq_false_iff_ne.mpr c74
                            have c74b1 : (a0_2.toList != ([] : List UInt8)) = true := bne_iff_ne.mpr c74
                            (first | rw [c74b0] | (simp only [i64_w, i32_w]; rw [c74b0]) | rw [c74b1] | skip)
                            replace H := Option.bind_eq_some_iff.mp H
                            obtain ⟨t190, A780, H⟩ := H
                            replace H : (event_Check.j3 kj61 (!t190) a0_0 a0_1 a0_2 a0_3 a0_4 a0_5 a0_6 a0_7 a0_8 a0_9 a0_10 a0_11 a0_12 l0_13 a0_14 t174 t175 true t177 t178 t179) = some r := H
                            have A78 := Aside0.mk A780
                            clear A780
                            have H' := Aside0.mk H
                            clear H
                            have hnb79 := NB181_173.out
                            have hnc79 := NB173_181.out
                            have hcz80_0 : wc.cell? ⟨gb181, 0, none⟩ = some (.bool t174) := bc BK181 0
                            have hcz80_1 : wc.cell? ⟨gb181, 1, none⟩ = some (.bool t175) := bc BK181 1
                            have hcz80_2 : wc.cell? ⟨gb181, 2, none⟩ = some (.bool true) := bc BK181 2
                            have hcz80_3 : wc.cell? ⟨gb181, 3, none⟩ = some (.bool t177) := bc BK181 3
                            have hcz80_4 : wc.cell? ⟨gb181, 4, none⟩ = some (.bool t178) := bc BK181 4
                            have hcz80_5 : wc.cell? ⟨gb181, 5, none⟩ = some (.bool t179) := bc BK181 5
                            have hfz80_0 := blk_frozen BK181.out 0
                            have hfz80_1 := blk_frozen BK181.out 1
                            have hfz80_2 := blk_frozen BK181.out 2
                            have hfz80_3 := blk_frozen BK181.out 3
                            have hfz80_4 := blk_frozen BK181.out 4
                            have hfz80_5 := blk_frozen BK181.out 5
                            have hcz81_0 : wc.cell? ⟨gb173, 0, none⟩ = some (.int .i64 a0_0) := bc BK173 0
                            have hcz81_1 : wc.cell? ⟨gb173, 1, none⟩ = some (.string a0_1) := bc BK173 1
                            have hcz81_2 : wc.cell? ⟨gb173, 2, none⟩ = some (.string a0_2) := bc BK173 2
                            have hcz81_3 : wc.cell? ⟨gb173, 3, none⟩ = some (.int .i64 a0_3) := bc BK173 3
                            have hcz81_4 : wc.cell? ⟨gb173, 4, none⟩ = some (.int .i64 a0_4) := bc BK173 4
                            have hcz81_5 : wc.cell? ⟨gb173, 5, none⟩ = some (.string a0_5) := bc BK173 5
                            have hcz81_6 : wc.cell? ⟨gb173, 6, none⟩ = some (.int .i64 a0_6) := bc BK173 6
                            have hcz81_7 : wc.cell? ⟨gb173, 7, none⟩ = some (.int .i64 a0_7) := bc BK173 7
                            have hcz81_8 : wc.cell? ⟨gb173, 8, none⟩ = some (.int .i64 a0_8) := bc BK173 8
                            have hcz81_9 : wc.cell? ⟨gb173, 9, none⟩ = some (.int .i64 a0_9) := bc BK173 9
                            have hcz81_10 : wc.cell? ⟨gb173, 10, none⟩ = some (.int .i64 a0_10) := bc BK173 10
                            have hcz81_11 : wc.cell? ⟨gb173, 11, none⟩ = some (.string a0_11) := bc BK173 11
                            have hcz81_12 : wc.cell? ⟨gb173, 12, none⟩ = some (.string a0_12) := bc BK173 12
                            have hcz81_13 : wc.cell? ⟨gb173, 13, none⟩ = some (.slice A0_13 l0_13.length c0_13) := bc BK173 13
                            have hcz81_14 : wc.cell? ⟨gb173, 14, none⟩ = some (.int .i64 a0_14) := bc BK173 14
                            have hfz81_0 := blk_frozen BK173.out 0
                            have hfz81_1 := blk_frozen BK173.out 1
                            have hfz81_2 := blk_frozen BK173.out 2
                            have hfz81_3 := blk_frozen BK173.out 3
                            have hfz81_4 := blk_frozen BK173.out 4
                            have hfz81_5 := blk_frozen BK173.out 5
                            have hfz81_6 := blk_frozen BK173.out 6
                            have hfz81_7 := blk_frozen BK173.out 7
                            have hfz81_8 := blk_frozen BK173.out 8
                            have hfz81_9 := blk_frozen BK173.out 9
                            have hfz81_10 := blk_frozen BK173.out 10
                            have hfz81_11 := blk_frozen BK173.out 11
                            have hfz81_12 := blk_frozen BK173.out 12
                            have hfz81_13 := blk_frozen BK173.out 13
                            have hfz81_14 := blk_frozen BK173.out 14
                            go_wp2_with (first | (go_at_call 37; (with_reducible refine (label_Tag.calls a0_2 t190 _ A78.out).mono ?_); rintro e w82 ⟨rfl, hb⟩; have n0_ := Aside0.mk (blk_below (g := gb173) (pk BK173) hb); have n1_ := Aside0.mk (blk_below (g := gb181) (pk BK181) hb); have n2_ := Aside0.mk (below_step (by repeat (first | (with_reducible first | exact HB.out | apply below_alloc | apply pw_below_drewN | apply below_drew1 | refine below_set ?_ GE173.out | refine below_set ?_ GE181.out) | exact HB.out)) hb); clear BK173; clear BK181; clear HB; have BK173 := n0_; have BK181 := n1_; have HB := n2_; clear n0_ n1_ n2_; (try clear hb); (try clear hb2); (try clear hk); (try clear hi)))
                            go_meet
                            case rel => exact ⟨_, (!t190), (by first | rfl | (simp; done) | (simp [*]; done)), H', ⟨by have := HJ3.out; have := HJ51.out; have := HJ61.out; first | omega | exact Nat.le_refl _⟩, ⟨by (with_reducible repeat (first | refine blk_drewN ?_ _ | refine blk_drew ?_ | refine blk_alloc ?_ _)); exact BK173.out⟩, ⟨by (with_reducible repeat (first | refine blk_drewN ?_ _ | refine blk_drew ?_ | refine blk_alloc ?_ _)); exact BK181.out⟩, ⟨by repeat (first | (with_reducible first | exact HB.out | apply below_alloc | apply pw_below_drewN | apply below_drew1 | refine below_set ?_ GE173.out | refine below_set ?_ GE181.out) | exact HB.out)⟩⟩
                        · replace c73 := Bool.eq_false_iff.mpr c73
                          subst c73
                          have H1 : (event_Check.j3 kj61 false a0_0 a0_1 a0_2 a0_3 a0_4 a0_5 a0_6 a0_7 a0_8 a0_9 a0_10 a0_11 a0_12 l0_13 a0_14 t174 t175 false t177 t178 t179) = some r := by rw [if_neg (show ¬ (false = true) by decide)] at H; exact H
                          clear H
                          have H := H1
                          clear H1
                          have H' := Aside0.mk H
                          clear H
                          have hnb83 := NB181_173.out
                          have hnc83 := NB173_181.out
                          have hcz84_0 : wc.cell? ⟨gb181, 0, none⟩ = some (.bool t174) := bc BK181 0
                          have hcz84_1 : wc.cell? ⟨gb181, 1, none⟩ = some (.bool t175) := bc BK181 1
                          have hcz84_2 : wc.cell? ⟨gb181, 2, none⟩ = some (.bool false) := bc BK181 2
                          have hcz84_3 : wc.cell? ⟨gb181, 3, none⟩ = some (.bool t177) := bc BK181 3
                          have hcz84_4 : wc.cell? ⟨gb181, 4, none⟩ = some (.bool t178) := bc BK181 4
                          have hcz84_5 : wc.cell? ⟨gb181, 5, none⟩ = some (.bool t179) := bc BK181 5
                          have hfz84_0 := blk_frozen BK181.out 0
                          have hfz84_1 := blk_frozen BK181.out 1
                          have hfz84_2 := blk_frozen BK181.out 2
                          have hfz84_3 := blk_frozen BK181.out 3
                          have hfz84_4 := blk_frozen BK181.out 4
                          have hfz84_5 := blk_frozen BK181.out 5
                          go_wp2
                          go_meet
                          case rel => exact ⟨_, (false), (by first | rfl | (simp; done) | (simp [*]; done)), H', ⟨by have := HJ3.out; have := HJ51.out; have := HJ61.out; first | omega | exact Nat.le_refl _⟩, ⟨by (with_reducible repeat (first | refine blk_drewN ?_ _ | refine blk_drew ?_ | refine blk_alloc ?_ _)); exact BK173.out⟩, ⟨by (with_reducible repeat (first | refine blk_drewN ?_ _ | refine blk_drew ?_ | refine blk_alloc ?_ _)); exact BK181.out⟩, ⟨by repeat (first | (with_reducible first | exact HB.out | apply below_alloc | apply pw_below_drewN | apply below_drew1 | refine below_set ?_ GE173.out | refine below_set ?_ GE181.out) | exact HB.out)⟩⟩
                      case rest =>
                        clear HC72
                        try clear p2
                        try clear c7
                        try clear c8
                        try clear c71
                        try clear c73
                        try clear c74
                        try clear c74b0
                        try clear c74b1
                        try clear c75
                        try clear c79
                        try clear c83
                        try clear hcz36_0
                        try clear hcz36_1
                        try clear hcz36_2
                        try clear hcz36_3
                        try clear hcz36_4
                        try clear hcz36_5
                        try clear hcz37_0
                        try clear hcz37_1
                        try clear hcz37_10
                        try clear hcz37_11
                        try clear hcz37_12
                        try clear hcz37_13
                        try clear hcz37_14
                        try clear hcz37_2
                        try clear hcz37_3
                        try clear hcz37_4
                        try clear hcz37_5
                        try clear hcz37_6
                        try clear hcz37_7
                        try clear hcz37_8
                        try clear hcz37_9
                        try clear hcz40_0
                        try clear hcz40_1
                        try clear hcz40_2
                        try clear hcz40_3
                        try clear hcz40_4
                        try clear hcz40_5
                        try clear hcz41_0
                        try clear hcz41_1
                        try clear hcz41_10
                        try clear hcz41_11
                        try clear hcz41_12
                        try clear hcz41_13
                        try clear hcz41_14
                        try clear hcz41_2
                        try clear hcz41_3
                        try clear hcz41_4
                        try clear hcz41_5
                        try clear hcz41_6
                        try clear hcz41_7
                        try clear hcz41_8
                        try clear hcz41_9
                        try clear hcz43_0
                        try clear hcz43_1
                        try clear hcz43_2
                        try clear hcz43_3
                        try clear hcz43_4
                        try clear hcz43_5
                        try clear hcz44_0
                        try clear hcz44_1
                        try clear hcz44_10
                        try clear hcz44_11
                        try clear hcz44_12
                        try clear hcz44_13
                        try clear hcz44_14
                        try clear hcz44_2
                        try clear hcz44_3
                        try clear hcz44_4
                        try clear hcz44_5
                        try clear hcz44_6
                        try clear hcz44_7
                        try clear hcz44_8
                        try clear hcz44_9
                        try clear hcz46_0
                        try clear hcz46_1
                        try clear hcz46_2
                        try clear hcz46_3
                        try clear hcz46_4
                        try clear hcz46_5
                        try clear hcz47_0
                        try clear hcz47_1
                        try clear hcz47_10
                        try clear hcz47_11
                        try clear hcz47_12
                        try clear hcz47_13
                        try clear hcz47_14
                        try clear hcz47_2
                        try clear hcz47_3
                        try clear hcz47_4
                        try clear hcz47_5
                        try clear hcz47_6
                        try clear hcz47_7
                        try clear hcz47_8
                        try clear hcz47_9
                        try clear hcz49_0
                        try clear hcz49_1
                        try clear hcz49_2
                        try clear hcz49_3
                        try clear hcz49_4
                        try clear hcz49_5
                        try clear hcz50_0
                        try clear hcz50_1
                        try clear hcz50_10
                        try clear hcz50_11
                        try clear hcz50_12
                        try clear hcz50_13
                        try clear hcz50_14
                        try clear hcz50_2
                        try clear hcz50_3
                        try clear hcz50_4
                        try clear hcz50_5
                        try clear hcz50_6
                        try clear hcz50_7
                        try clear hcz50_8
                        try clear hcz50_9
                        try clear hcz56_0
                        try clear hcz56_1
                        try clear hcz56_2
                        try clear hcz56_3
                        try clear hcz56_4
                        try clear hcz56_5
                        try clear hcz57_0
                        try clear hcz57_1
                        try clear hcz57_10
                        try clear hcz57_11
                        try clear hcz57_12
                        try clear hcz57_13
                        try clear hcz57_14
                        try clear hcz57_2
                        try clear hcz57_3
                        try clear hcz57_4
                        try clear hcz57_5
                        try clear hcz57_6
                        try clear hcz57_7
                        try clear hcz57_8
                        try clear hcz57_9
                        try clear hcz60_0
                        try clear hcz60_1
                        try clear hcz60_2
                        try clear hcz60_3
                        try clear hcz60_4
                        try clear hcz60_5
                        try clear hcz66_0
                        try clear hcz66_1
                        try clear hcz66_2
                        try clear hcz66_3
                        try clear hcz66_4
                        try clear hcz66_5
                        try clear hcz67_0
                        try clear hcz67_1
                        try clear hcz67_10
                        try clear hcz67_11
                        try clear hcz67_12
                        try clear hcz67_13
                        try clear hcz67_14
                        try clear hcz67_2
                        try clear hcz67_3
                        try clear hcz67_4
                        try clear hcz67_5
                        try clear hcz67_6
                        try clear hcz67_7
                        try clear hcz67_8
                        try clear hcz67_9
                        try clear hcz6_0
                        try clear hcz6_1
                        try clear hcz6_10
                        try clear hcz6_11
                        try clear hcz6_12
                        try clear hcz6_13
                        try clear hcz6_14
                        try clear hcz6_2
                        try clear hcz6_3
                        try clear hcz6_4
                        try clear hcz6_5
                        try clear hcz6_6
                        try clear hcz6_7
                        try clear hcz6_8
                        try clear hcz6_9
                        try clear hcz70_0
                        try clear hcz70_1
                        try clear hcz70_2
                        try clear hcz70_3
                        try clear hcz70_4
                        try clear hcz70_5
                        try clear hcz76_0
                        try clear hcz76_1
                        try clear hcz76_2
                        try clear hcz76_3
                        try clear hcz76_4
                        try clear hcz76_5
                        try clear hcz77_0
                        try clear hcz77_1
                        try clear hcz77_10
                        try clear hcz77_11
                        try clear hcz77_12
                        try clear hcz77_13
                        try clear hcz77_14
                        try clear hcz77_2
                        try clear hcz77_3
                        try clear hcz77_4
                        try clear hcz77_5
                        try clear hcz77_6
                        try clear hcz77_7
                        try clear hcz77_8
                        try clear hcz77_9
                        try clear hcz80_0
                        try clear hcz80_1
                        try clear hcz80_2
                        try clear hcz80_3
                        try clear hcz80_4
                        try clear hcz80_5
                        try clear hcz81_0
                        try clear hcz81_1
                        try clear hcz81_10
                        try clear hcz81_11
                        try clear hcz81_12
                        try clear hcz81_13
                        try clear hcz81_14
                        try clear hcz81_2
                        try clear hcz81_3
                        try clear hcz81_4
                        try clear hcz81_5
                        try clear hcz81_6
                        try clear hcz81_7
                        try clear hcz81_8
                        try clear hcz81_9
                        try clear hcz84_0
                        try clear hcz84_1
                        try clear hcz84_2
                        try clear hcz84_3
                        try clear hcz84_4
                        try clear hcz84_5
                        try clear hfz10_0
                        try clear hfz10_1
                        try clear hfz10_2
                        try clear hfz10_3
                        try clear hfz10_4
                        try clear hfz10_5
                        try clear hfz23_0
                        try clear hfz23_1
                        try clear hfz23_2
                        try clear hfz23_3
                        try clear hfz23_4
                        try clear hfz23_5
                        try clear hfz24_0
                        try clear hfz24_1
                        try clear hfz24_10
                        try clear hfz24_11
                        try clear hfz24_12
                        try clear hfz24_13
                        try clear hfz24_14
                        try clear hfz24_2
                        try clear hfz24_3
                        try clear hfz24_4
                        try clear hfz24_5
                        try clear hfz24_6
                        try clear hfz24_7
                        try clear hfz24_8
                        try clear hfz24_9
                        try clear hfz26_0
                        try clear hfz26_1
                        try clear hfz26_2
                        try clear hfz26_3
                        try clear hfz26_4
                        try clear hfz26_5
                        try clear hfz29_0
                        try clear hfz29_1
                        try clear hfz29_2
                        try clear hfz29_3
                        try clear hfz29_4
                        try clear hfz29_5
                        try clear hfz30_0
                        try clear hfz30_1
                        try clear hfz30_10
                        try clear hfz30_11
                        try clear hfz30_12
                        try clear hfz30_13
                        try clear hfz30_14
                        try clear hfz30_2
                        try clear hfz30_3
                        try clear hfz30_4
                        try clear hfz30_5
                        try clear hfz30_6
                        try clear hfz30_7
                        try clear hfz30_8
                        try clear hfz30_9
                        try clear hfz32_0
                        try clear hfz32_1
                        try clear hfz32_2
                        try clear hfz32_3
                        try clear hfz32_4
                        try clear hfz32_5
                        try clear hfz33_0
                        try clear hfz33_1
                        try clear hfz33_10
                        try clear hfz33_11
                        try clear hfz33_12
                        try clear hfz33_13
                        try clear hfz33_14
                        try clear hfz33_2
                        try clear hfz33_3
                        try clear hfz33_4
                        try clear hfz33_5
                        try clear hfz33_6
                        try clear hfz33_7
                        try clear hfz33_8
                        try clear hfz33_9
                        try clear hfz36_0
                        try clear hfz36_1
                        try clear hfz36_2
                        try clear hfz36_3
                        try clear hfz36_4
                        try clear hfz36_5
                        try clear hfz37_0
                        try clear hfz37_1
                        try clear hfz37_10
                        try clear hfz37_11
                        try clear hfz37_12
                        try clear hfz37_13
                        try clear hfz37_14
                        try clear hfz37_2
                        try clear hfz37_3
                        try clear hfz37_4
                        try clear hfz37_5
                        try clear hfz37_6
                        try clear hfz37_7
                        try clear hfz37_8
                        try clear hfz37_9
                        try clear hfz40_0
                        try clear hfz40_1
                        try clear hfz40_2
                        try clear hfz40_3
                        try clear hfz40_4
                        try clear hfz40_5
                        try clear hfz41_0
                        try clear hfz41_1
                        try clear hfz41_10
                        try clear hfz41_11
                        try clear hfz41_12
                        try clear hfz41_13
                        try clear hfz41_14
                        try clear hfz41_2
                        try clear hfz41_3
                        try clear hfz41_4
                        try clear hfz41_5
                        try clear hfz41_6
                        try clear hfz41_7
                        try clear hfz41_8
                        try clear hfz41_9
                        try clear hfz43_0
                        try clear hfz43_1
                        try clear hfz43_2
                        try clear hfz43_3
                        try clear hfz43_4
                        try clear hfz43_5
                        try clear hfz44_0
                        try clear hfz44_1
                        try clear hfz44_10
                        try clear hfz44_11
                        try clear hfz44_12
                        try clear hfz44_13
                        try clear hfz44_14
                        try clear hfz44_2
                        try clear hfz44_3
                        try clear hfz44_4
                        try clear hfz44_5
                        try clear hfz44_6
                        try clear hfz44_7
                        try clear hfz44_8
                        try clear hfz44_9
                        try clear hfz46_0
                        try clear hfz46_1
                        try clear hfz46_2
                        try clear hfz46_3
                        try clear hfz46_4
                        try clear hfz46_5
                        try clear hfz47_0
                        try clear hfz47_1
                        try clear hfz47_10
                        try clear hfz47_11
                        try clear hfz47_12
                        try clear hfz47_13
                        try clear hfz47_14
                        try clear hfz47_2
                        try clear hfz47_3
                        try clear hfz47_4
                        try clear hfz47_5
                        try clear hfz47_6
                        try clear hfz47_7
                        try clear hfz47_8
                        try clear hfz47_9
                        try clear hfz49_0
                        try clear hfz49_1
                        try clear hfz49_2
                        try clear hfz49_3
                        try clear hfz49_4
                        try clear hfz49_5
                        try clear hfz50_0
                        try clear hfz50_1
                        try clear hfz50_10
                        try clear hfz50_11
                        try clear hfz50_12
                        try clear hfz50_13
                        try clear hfz50_14
                        try clear hfz50_2
                        try clear hfz50_3
                        try clear hfz50_4
                        try clear hfz50_5
                        try clear hfz50_6
                        try clear hfz50_7
                        try clear hfz50_8
                        try clear hfz50_9
                        try clear hfz56_0
                        try clear hfz56_1
                        try clear hfz56_2
                        try clear hfz56_3
                        try clear hfz56_4
                        try clear hfz56_5
                        try clear hfz57_0
                        try clear hfz57_1
                        try clear hfz57_10
                        try clear hfz57_11
                        try clear hfz57_12
                        try clear hfz57_13
                        try clear hfz57_14
                        try clear hfz57_2
                        try clear hfz57_3
                        try clear hfz57_4
                        try clear hfz57_5
                        try clear hfz57_6
                        try clear hfz57_7
                        try clear hfz57_8
                        try clear hfz57_9
                        try clear hfz60_0
                        try clear hfz60_1
                        try clear hfz60_2
                        try clear hfz60_3
                        try clear hfz60_4
                        try clear hfz60_5
                        try clear hfz66_0
                        try clear hfz66_1
                        try clear hfz66_2
                        try clear hfz66_3
                        try clear hfz66_4
                        try clear hfz66_5
                        try clear hfz67_0
                        try clear hfz67_1
                        try clear hfz67_10
                        try clear hfz67_11
                        try clear hfz67_12
                        try clear hfz67_13
                        try clear hfz67_14
                        try clear hfz67_2
                        try clear hfz67_3
                        try clear hfz67_4
                        try clear hfz67_5
                        try clear hfz67_6
                        try clear hfz67_7
                        try clear hfz67_8
                        try clear hfz67_9
                        try clear hfz6_0
                        try clear hfz6_1
                        try clear hfz6_10
                        try clear hfz6_11
                        try clear hfz6_12
                        try clear hfz6_13
                        try clear hfz6_14
                        try clear hfz6_2
                        try clear hfz6_3
                        try clear hfz6_4
                        try clear hfz6_5
                        try clear hfz6_6
                        try clear hfz6_7
                        try clear hfz6_8
                        try clear hfz6_9
                        try clear hfz70_0
                        try clear hfz70_1
                        try clear hfz70_2
                        try clear hfz70_3
                        try clear hfz70_4
                        try clear hfz70_5
                        try clear hfz76_0
                        try clear hfz76_1
                        try clear hfz76_2
                        try clear hfz76_3
                        try clear hfz76_4
                        try clear hfz76_5
                        try clear hfz77_0
                        try clear hfz77_1
                        try clear hfz77_10
                        try clear hfz77_11
                        try clear hfz77_12
                        try clear hfz77_13
                        try clear hfz77_14
                        try clear hfz77_2
                        try clear hfz77_3
                        try clear hfz77_4
                        try clear hfz77_5
                        try clear hfz77_6
                        try clear hfz77_7
                        try clear hfz77_8
                        try clear hfz77_9
                        try clear hfz80_0
                        try clear hfz80_1
                        try clear hfz80_2
                        try clear hfz80_3
                        try clear hfz80_4
                        try clear hfz80_5
                        try clear hfz81_0
                        try clear hfz81_1
                        try clear hfz81_10
                        try clear hfz81_11
                        try clear hfz81_12
                        try clear hfz81_13
                        try clear hfz81_14
                        try clear hfz81_2
                        try clear hfz81_3
                        try clear hfz81_4
                        try clear hfz81_5
                        try clear hfz81_6
                        try clear hfz81_7
                        try clear hfz81_8
                        try clear hfz81_9
                        try clear hfz84_0
                        try clear hfz84_1
                        try clear hfz84_2
                        try clear hfz84_3
                        try clear hfz84_4
                        try clear hfz84_5
                        try clear p2
                        obtain ⟨kq, x78_71, rfl, HA, HJ71, BK173, BK181, HB⟩ := hcut
                        cases kq with
                        | zero => exact absurd HA.out (by simp [event_Check.j3])
                        | succ kj71 =>
                          have H := HA.out
                          clear HA
                          simp only [event_Check.j3] at H
                          by_cases c85 : x78_71 = true
                          · subst c85
                            have H1 : (some 1) = some r := by rw [if_pos rfl] at H; exact H
                            clear H
                            have H := H1
                            clear H1
                            obtain rfl := Option.some.inj H
                            go_wp2
                            go_ret
                            exact ⟨by first | rfl | (simp [errW_none, errW_some] <;> rfl) | (simp [*, errW_none, errW_some] <;> rfl), by repeat (first | (with_reducible first | exact HB.out | apply below_alloc | apply pw_below_drewN | apply below_drew1 | refine below_set ?_ GE173.out | refine below_set ?_ GE181.out) | exact HB.out)⟩
                          · replace c85 := Bool.eq_false_iff.mpr c85
                            subst c85
                            have H1 : (if t177 = true then ((event_within.f a0_4 0 2147483647).bind fun t191 => (event_Check.j4 kj71 (!t191) a0_0 a0_1 a0_2 a0_3 a0_4 a0_5 a0_6 a0_7 a0_8 a0_9 a0_10 a0_11 a0_12 l0_13 a0_14 t174 t175 t176 t177 t178 t179)) else (event_Check.j4 kj71 false a0_0 a0_1 a0_2 a0_3 a0_4 a0_5 a0_6 a0_7 a0_8 a0_9 a0_10 a0_11 a0_12 l0_13 a0_14 t174 t175 t176 t177 t178 t179)) = some r := by rw [if_neg (show ¬ (false = true) by decide)] at H; exact H
                            clear H
                            have H := H1
                            clear H1
                            have HC86 := Aside0.mk H
                            clear H
                            go_upto_region 12 with (fail)
                            go_cut [92] (fun v92 wc => ∃ (kq : Nat) (x92_85 : Bool), v92 = .bool x92_85 ∧ Aside0 (event_Check.j4 kq x92_85 a0_0 a0_1 a0_2 a0_3 a0_4 a0_5 a0_6 a0_7 a0_8 a0_9 a0_10 a0_11 a0_12 l0_13 a0_14 t174 t175 t176 t177 t178 t179 = some r) ∧ Aside0 (kq ≤ kj71) ∧ Aside0 (wc.heap[gb173]? = some (.cells #[.int .i64 a0_0, .string a0_1, .string a0_2, .int .i64 a0_3, .int .i64 a0_4, .string a0_5, .int .i64 a0_6, .int .i64 a0_7, .int .i64 a0_8, .int .i64 a0_9, .int .i64 a0_10, .string a0_11, .string a0_12, (.slice A0_13 l0_13.length c0_13), .int .i64 a0_14] 28 (0, 0))) ∧ Aside0 (wc.heap[gb181]? = some (.cells #[.bool t174, .bool t175, .bool t176, .bool t177, .bool t178, .bool t179] 66 (0, 0))) ∧ Aside0 (Below w.heap.size w wc))
                            case first =>
                              have H := HC86.out
                              clear HC86
                              by_cases c87 : t177 = true
                              · subst c87
                                have H1 : ((event_within.f a0_4 0 2147483647).bind fun t191 => (event_Check.j4 kj71 (!t191) a0_0 a0_1 a0_2 a0_3 a0_4 a0_5 a0_6 a0_7 a0_8 a0_9 a0_10 a0_11 a0_12 l0_13 a0_14 t174 t175 t176 true t178 t179)) = some r := by rw [if_pos rfl] at H; exact H
                                clear H
                                have H := H1
                                clear H1
                                replace H := Option.bind_eq_some_iff.mp H
                                obtain ⟨t191, A880, H⟩ := H
                                replace H : (event_Check.j4 kj71 (!t191) a0_0 a0_1 a0_2 a0_3 a0_4 a0_5 a0_6 a0_7 a0_8 a0_9 a0_10 a0_11 a0_12 l0_13 a0_14 t174 t175 t176 true t178 t179) = some r := H
                                have A88 := Aside0.mk A880
                                clear A880
                                have H' := Aside0.mk H
                                clear H
                                have hnb89 := NB181_173.out
                                have hnc89 := NB173_181.out
                                have hcz90_0 : wc.cell? ⟨gb181, 0, none⟩ = some (.bool t174) := bc BK181 0
                                have hcz90_1 : wc.cell? ⟨gb181, 1, none⟩ = some (.bool t175) := bc BK181 1
                                have hcz90_2 : wc.cell? ⟨gb181, 2, none⟩ = some (.bool t176) := bc BK181 2
                                have hcz90_3 : wc.cell? ⟨gb181, 3, none⟩ = some (.bool true) := bc BK181 3
                                have hcz90_4 : wc.cell? ⟨gb181, 4, none⟩ = some (.bool t178) := bc BK181 4
                                have hcz90_5 : wc.cell? ⟨gb181, 5, none⟩ = some (.bool t179) := bc BK181 5
                                have hfz90_0 := blk_frozen BK181.out 0
                                have hfz90_1 := blk_frozen BK181.out 1
                                have hfz90_2 := blk_frozen BK181.out 2
                                have hfz90_3 := blk_frozen BK181.out 3
                                have hfz90_4 := blk_frozen BK181.out 4
                                have hfz90_5 := blk_frozen BK181.out 5
                                have hcz91_0 : wc.cell? ⟨gb173, 0, none⟩ = some (.int .i64 a0_0) := bc BK173 0
                                have hcz91_1 : wc.cell? ⟨gb173, 1, none⟩ = some (.string a0_1) := bc BK173 1
                                have hcz91_2 : wc.cell? ⟨gb173, 2, none⟩ = some (.string a0_2) := bc BK173 2
                                have hcz91_3 : wc.cell? ⟨gb173, 3, none⟩ = some (.int .i64 a0_3) := bc BK173 3
                                have hcz91_4 : wc.cell? ⟨gb173, 4, none⟩ = some (.int .i64 a0_4) := bc BK173 4
                                have hcz91_5 : wc.cell? ⟨gb173, 5, none⟩ = some (.string a0_5) := bc BK173 5
                                have hcz91_6 : wc.cell? ⟨gb173, 6, none⟩ = some (.int .i64 a0_6) := bc BK173 6
                                have hcz91_7 : wc.cell? ⟨gb173, 7, none⟩ = some (.int .i64 a0_7) := bc BK173 7
                                have hcz91_8 : wc.cell? ⟨gb173, 8, none⟩ = some (.int .i64 a0_8) := bc BK173 8
                                have hcz91_9 : wc.cell? ⟨gb173, 9, none⟩ = some (.int .i64 a0_9) := bc BK173 9
                                have hcz91_10 : wc.cell? ⟨gb173, 10, none⟩ = some (.int .i64 a0_10) := bc BK173 10
                                have hcz91_11 : wc.cell? ⟨gb173, 11, none⟩ = some (.string a0_11) := bc BK173 11
                                have hcz91_12 : wc.cell? ⟨gb173, 12, none⟩ = some (.string a0_12) := bc BK173 12
                                have hcz91_13 : wc.cell? ⟨gb173, 13, none⟩ = some (.slice A0_13 l0_13.length c0_13) := bc BK173 13
                                have hcz91_14 : wc.cell? ⟨gb173, 14, none⟩ = some (.int .i64 a0_14) := bc BK173 14
                                have hfz91_0 := blk_frozen BK173.out 0
                                have hfz91_1 := blk_frozen BK173.out 1
                                have hfz91_2 := blk_frozen BK173.out 2
                                have hfz91_3 := blk_frozen BK173.out 3
                                have hfz91_4 := blk_frozen BK173.out 4
                                have hfz91_5 := blk_frozen BK173.out 5
                                have hfz91_6 := blk_frozen BK173.out 6
                                have hfz91_7 := blk_frozen BK173.out 7
                                have hfz91_8 := blk_frozen BK173.out 8
                                have hfz91_9 := blk_frozen BK173.out 9
                                have hfz91_10 := blk_frozen BK173.out 10
                                have hfz91_11 := blk_frozen BK173.out 11
                                have hfz91_12 := blk_frozen BK173.out 12
                                have hfz91_13 := blk_frozen BK173.out 13
                                have hfz91_14 := blk_frozen BK173.out 14
                                go_wp2_with (first | (go_at_call 38; (with_reducible refine (event_within.calls a0_4 0 2147483647 t191 _ A88.out).mono ?_); rintro e w' ⟨rfl, ⟨nd, rfl⟩⟩))
                                go_meet
                                case rel => exact ⟨_, (!t191), (by first | rfl | (simp; done) | (simp [*]; done)), H', ⟨by have := HJ3.out; have := HJ51.out; have := HJ61.out; have := HJ71.out; first | omega | exact Nat.le_refl _⟩, ⟨by (with_reducible repeat (first | refine blk_drewN ?_ _ | refine blk_drew ?_ | refine blk_alloc ?_ _)); exact BK173.out⟩, ⟨by (with_reducible repeat (first | refine blk_drewN ?_ _ | refine blk_drew ?_ | refine blk_alloc ?_ _)); exact BK181.out⟩, ⟨by repeat (first | (with_reducible first | exact HB.out | apply below_alloc | apply pw_below_drewN | apply below_drew1 | refine below_set ?_ GE173.out | refine below_set ?_ GE181.out) | exact HB.out)⟩⟩
                              · replace c87 := Bool.eq_false_iff.mpr c87
                                subst c87
                                have H1 : (event_Check.j4 kj71 false a0_0 a0_1 a0_2 a0_3 a0_4 a0_5 a0_6 a0_7 a0_8 a0_9 a0_10 a0_11 a0_12 l0_13 a0_14 t174 t175 t176 false t178 t179) = some r := by rw [if_neg (show ¬ (false = true) by decide)] at H; exact H
                                clear H
                                have H := H1
                                clear H1
                                have H' := Aside0.mk H
                                clear H
                                have hnb92 := NB181_173.out
                                have hnc92 := NB173_181.out
                                have hcz93_0 : wc.cell? ⟨gb181, 0, none⟩ = some (.bool t174) := bc BK181 0
                                have hcz93_1 : wc.cell? ⟨gb181, 1, none⟩ = some (.bool t175) := bc BK181 1
                                have hcz93_2 : wc.cell? ⟨gb181, 2, none⟩ = some (.bool t176) := bc BK181 2
                                have hcz93_3 : wc.cell? ⟨gb181, 3, none⟩ = some (.bool false) := bc BK181 3
                                have hcz93_4 : wc.cell? ⟨gb181, 4, none⟩ = some (.bool t178) := bc BK181 4
                                have hcz93_5 : wc.cell? ⟨gb181, 5, none⟩ = some (.bool t179) := bc BK181 5
                                have hfz93_0 := blk_frozen BK181.out 0
                                have hfz93_1 := blk_frozen BK181.out 1
                                have hfz93_2 := blk_frozen BK181.out 2
                                have hfz93_3 := blk_frozen BK181.out 3
                                have hfz93_4 := blk_frozen BK181.out 4
                                have hfz93_5 := blk_frozen BK181.out 5
                                go_wp2
                                go_meet
                                case rel => exact ⟨_, (false), (by first | rfl | (simp; done) | (simp [*]; done)), H', ⟨by have := HJ3.out; have := HJ51.out; have := HJ61.out; have := HJ71.out; first | omega | exact Nat.le_refl _⟩, ⟨by (with_reducible repeat (first | refine blk_drewN ?_ _ | refine blk_drew ?_ | refine blk_alloc ?_ _)); exact BK173.out⟩, ⟨by (with_reducible repeat (first | refine blk_drewN ?_ _ | refine blk_drew ?_ | refine blk_alloc ?_ _)); exact BK181.out⟩, ⟨by repeat (first | (with_reducible first | exact HB.out | apply below_alloc | apply pw_below_drewN | apply below_drew1 | refine below_set ?_ GE173.out | refine below_set ?_ GE181.out) | exact HB.out)⟩⟩
                            case rest =>
                              clear HC86
                              try clear p2
                              try clear c8
                              try clear c9
                              try clear c85
                              try clear c87
                              try clear c89
                              try clear c92
                              try clear hcz41_5
                              try clear hcz41_6
                              try clear hcz41_7
                              try clear hcz41_8
                              try clear hcz41_9
                              try clear hcz43_0
                              try clear hcz43_1
                              try clear hcz43_2
                              try clear hcz43_3
                              try clear hcz43_4
                              try clear hcz43_5
                              try clear hcz44_0
                              try clear hcz44_1
                              try clear hcz44_10
                              try clear hcz44_11
                              try clear hcz44_12
                              try clear hcz44_13
                              try clear hcz44_14
                              try clear hcz44_2
                              try clear hcz44_3
                              try clear hcz44_4
                              try clear hcz44_5
                              try clear hcz44_6
                              try clear hcz44_7
                              try clear hcz44_8
                              try clear hcz44_9
                              try clear hcz46_0
                              try clear hcz46_1
                              try clear hcz46_2
                              try clear hcz46_3
                              try clear hcz46_4
                              try clear hcz46_5
                              try clear hcz47_0
                              try clear hcz47_1
                              try clear hcz47_10
                              try clear hcz47_11
                              try clear hcz47_12
                              try clear hcz47_13
                              try clear hcz47_14
                              try clear hcz47_2
                              try clear hcz47_3
                              try clear hcz47_4
                              try clear hcz47_5
                              try clear hcz47_6
                              try clear hcz47_7
                              try clear hcz47_8
                              try clear hcz47_9
                              try clear hcz49_0
                              try clear hcz49_1
                              try clear hcz49_2
                              try clear hcz49_3
                              try clear hcz49_4
                              try clear hcz49_5
                              try clear hcz50_0
                              try clear hcz50_1
                              try clear hcz50_10
                              try clear hcz50_11
                              try clear hcz50_12
                              try clear hcz50_13
                              try clear hcz50_14
                              try clear hcz50_2
                              try clear hcz50_3
                              try clear hcz50_4
                              try clear hcz50_5
                              try clear hcz50_6
                              try clear hcz50_7
                              try clear hcz50_8
                              try clear hcz50_9
                              try clear hcz56_0
                              try clear hcz56_1
                              try clear hcz56_2
                              try clear hcz56_3
                              try clear hcz56_4
                              try clear hcz56_5
                              try clear hcz57_0
                              try clear hcz57_1
                              try clear hcz57_10
                              try clear hcz57_11
                              try clear hcz57_12
                              try clear hcz57_13
                              try clear hcz57_14
                              try clear hcz57_2
                              try clear hcz57_3
                              try clear hcz57_4
                              try clear hcz57_5
                              try clear hcz57_6
                              try clear hcz57_7
                              try clear hcz57_8
                              try clear hcz57_9
                              try clear hcz60_0
                              try clear hcz60_1
                              try clear hcz60_2
                              try clear hcz60_3
                              try clear hcz60_4
                              try clear hcz60_5
                              try clear hcz66_0
                              try clear hcz66_1
                              try clear hcz66_2
                              try clear hcz66_3
                              try clear hcz66_4
                              try clear hcz66_5
                              try clear hcz67_0
                              try clear hcz67_1
                              try clear hcz67_10
                              try clear hcz67_11
                              try clear hcz67_12
                              try clear hcz67_13
                              try clear hcz67_14
                              try clear hcz67_2
                              try clear hcz67_3
                              try clear hcz67_4
                              try clear hcz67_5
                              try clear hcz67_6
                              try clear hcz67_7
                              try clear hcz67_8
                              try clear hcz67_9
                              try clear hcz6_0
                              try clear hcz6_1
                              try clear hcz6_10
                              try clear hcz6_11
                              try clear hcz6_12
                              try clear hcz6_13
                              try clear hcz6_14
                              try clear hcz6_2
                              try clear hcz6_3
                              try clear hcz6_4
                              try clear hcz6_5
                              try clear hcz6_6
                              try clear hcz6_7
                              try clear hcz6_8
                              try clear hcz6_9
                              try clear hcz70_0
                              try clear hcz70_1
                              try clear hcz70_2
                              try clear hcz70_3
                              try clear hcz70_4
                              try clear hcz70_5
                              try clear hcz76_0
                              try clear hcz76_1
                              try clear hcz76_2
                              try clear hcz76_3
                              try clear hcz76_4
                              try clear hcz76_5
                              try clear hcz77_0
                              try clear hcz77_1
                              try clear hcz77_10
                              try clear hcz77_11
                              try clear hcz77_12
                              try clear hcz77_13
                              try clear hcz77_14
                              try clear hcz77_2
                              try clear hcz77_3
                              try clear hcz77_4
                              try clear hcz77_5
                              try clear hcz77_6
                              try clear hcz77_7
                              try clear hcz77_8
                              try clear hcz77_9
                              try clear hcz80_0
                              try clear hcz80_1
                              try clear hcz80_2
                              try clear hcz80_3
                              try clear hcz80_4
                              try clear hcz80_5
                              try clear hcz81_0
                              try clear hcz81_1
                              try clear hcz81_10
                              try clear hcz81_11
                              try clear hcz81_12
                              try clear hcz81_13
                              try clear hcz81_14
                              try clear hcz81_2
                              try clear hcz81_3
                              try clear hcz81_4
                              try clear hcz81_5
                              try clear hcz81_6
                              try clear hcz81_7
                              try clear hcz81_8
                              try clear hcz81_9
                              try clear hcz84_0
                              try clear hcz84_1
                              try clear hcz84_2
                              try clear hcz84_3
                              try clear hcz84_4
                              try clear hcz84_5
                              try clear hcz90_0
                              try clear hcz90_1
                              try clear hcz90_2
                              try clear hcz90_3
                              try clear hcz90_4
                              try clear hcz90_5
                              try clear hcz91_0
                              try clear hcz91_1
                              try clear hcz91_10
                              try clear hcz91_11
                              try clear hcz91_12
                              try clear hcz91_13
                              try clear hcz91_14
                              try clear hcz91_2
                              try clear hcz91_3
                              try clear hcz91_4
                              try clear hcz91_5
                              try clear hcz91_6
                              try clear hcz91_7
                              try clear hcz91_8
                              try clear hcz91_9
                              try clear hcz93_0
                              try clear hcz93_1
                              try clear hcz93_2
                              try clear hcz93_3
                              try clear hcz93_4
                              try clear hcz93_5
                              try clear hfz10_0
                              try clear hfz10_1
                              try clear hfz10_2
                              try clear hfz10_3
                              try clear hfz10_4
                              try clear hfz10_5
                              try clear hfz23_0
                              try clear hfz23_1
                              try clear hfz23_2
                              try clear hfz23_3
                              try clear hfz23_4
                              try clear hfz23_5
                              try clear hfz24_0
                              try clear hfz24_1
                              try clear hfz24_10
                              try clear hfz24_11
                              try clear hfz24_12
                              try clear hfz24_13
                              try clear hfz24_14
                              try clear hfz24_2
                              try clear hfz24_3
                              try clear hfz24_4
                              try clear hfz24_5
                              try clear hfz24_6
                              try clear hfz24_7
                              try clear hfz24_8
                              try clear hfz24_9
                              try clear hfz26_0
                              try clear hfz26_1
                              try clear hfz26_2
                              try clear hfz26_3
                              try clear hfz26_4
                              try clear hfz26_5
                              try clear hfz29_0
                              try clear hfz29_1
                              try clear hfz29_2
                              try clear hfz29_3
                              try clear hfz29_4
                              try clear hfz29_5
                              try clear hfz30_0
                              try clear hfz30_1
                              try clear hfz30_10
                              try clear hfz30_11
                              try clear hfz30_12
                              try clear hfz30_13
                              try clear hfz30_14
                              try clear hfz30_2
                              try clear hfz30_3
                              try clear hfz30_4
                              try clear hfz30_5
                              try clear hfz30_6
                              try clear hfz30_7
                              try clear hfz30_8
                              try clear hfz30_9
                              try clear hfz32_0
                              try clear hfz32_1
                              try clear hfz32_2
                              try clear hfz32_3
                              try clear hfz32_4
                              try clear hfz32_5
                              try clear hfz33_0
                              try clear hfz33_1
                              try clear hfz33_10
                              try clear hfz33_11
                              try clear hfz33_12
                              try clear hfz33_13
                              try clear hfz33_14
                              try clear hfz33_2
                              try clear hfz33_3
                              try clear hfz33_4
                              try clear hfz33_5
                              try clear hfz33_6
                              try clear hfz33_7
                              try clear hfz33_8
                              try clear hfz33_9
                              try clear hfz36_0
                              try clear hfz36_1
                              try clear hfz36_2
                              try clear hfz36_3
                              try clear hfz36_4
                              try clear hfz36_5
                              try clear hfz37_0
                              try clear hfz37_1
                              try clear hfz37_10
                              try clear hfz37_11
                              try clear hfz37_12
                              try clear hfz37_13
                              try clear hfz37_14
                              try clear hfz37_2
                              try clear hfz37_3
                              try clear hfz37_4
                              try clear hfz37_5
                              try clear hfz37_6
                              try clear hfz37_7
                              try clear hfz37_8
                              try clear hfz37_9
                              try clear hfz40_0
                              try clear hfz40_1
                              try clear hfz40_2
                              try clear hfz40_3
                              try clear hfz40_4
                              try clear hfz40_5
                              try clear hfz41_0
                              try clear hfz41_1
                              try clear hfz41_10
                              try clear hfz41_11
                              try clear hfz41_12
                              try clear hfz41_13
                              try clear hfz41_14
                              try clear hfz41_2
                              try clear hfz41_3
                              try clear hfz41_4
                              try clear hfz41_5
                              try clear hfz41_6
                              try clear hfz41_7
                              try clear hfz41_8
                              try clear hfz41_9
                              try clear hfz43_0
                              try clear hfz43_1
                              try clear hfz43_2
                              try clear hfz43_3
                              try clear hfz43_4
                              try clear hfz43_5
                              try clear hfz44_0
                              try clear hfz44_1
                              try clear hfz44_10
                              try clear hfz44_11
                              try clear hfz44_12
                              try clear hfz44_13
                              try clear hfz44_14
                              try clear hfz44_2
                              try clear hfz44_3
                              try clear hfz44_4
                              try clear hfz44_5
                              try clear hfz44_6
                              try clear hfz44_7
                              try clear hfz44_8
                              try clear hfz44_9
                              try clear hfz46_0
                              try clear hfz46_1
                              try clear hfz46_2
                              try clear hfz46_3
                              try clear hfz46_4
                              try clear hfz46_5
                              try clear hfz47_0
                              try clear hfz47_1
                              try clear hfz47_10
                              try clear hfz47_11
                              try clear hfz47_12
                              try clear hfz47_13
                              try clear hfz47_14
                              try clear hfz47_2
                              try clear hfz47_3
                              try clear hfz47_4
                              try clear hfz47_5
                              try clear hfz47_6
                              try clear hfz47_7
                              try clear hfz47_8
                              try clear hfz47_9
                              try clear hfz49_0
                              try clear hfz49_1
                              try clear hfz49_2
                              try clear hfz49_3
                              try clear hfz49_4
                              try clear hfz49_5
                              try clear hfz50_0
                              try clear hfz50_1
                              try clear hfz50_10
                              try clear hfz50_11
                              try clear hfz50_12
                              try clear hfz50_13
                              try clear hfz50_14
                              try clear hfz50_2
                              try clear hfz50_3
                              try clear hfz50_4
                              try clear hfz50_5
                              try clear hfz50_6
                              try clear hfz50_7
                              try clear hfz50_8
                              try clear hfz50_9
                              try clear hfz56_0
                              try clear hfz56_1
                              try clear hfz56_2
                              try clear hfz56_3
                              try clear hfz56_4
                              try clear hfz56_5
                              try clear hfz57_0
                              try clear hfz57_1
                              try clear hfz57_10
                              try clear hfz57_11
                              try clear hfz57_12
                              try clear hfz57_13
                              try clear hfz57_14
                              try clear hfz57_2
                              try clear hfz57_3
                              try clear hfz57_4
                              try clear hfz57_5
                              try clear hfz57_6
                              try clear hfz57_7
                              try clear hfz57_8
                              try clear hfz57_9
                              try clear hfz60_0
                              try clear hfz60_1
                              try clear hfz60_2
                              try clear hfz60_3
                              try clear hfz60_4
                              try clear hfz60_5
                              try clear hfz66_0
                              try clear hfz66_1
                              try clear hfz66_2
                              try clear hfz66_3
                              try clear hfz66_4
                              try clear hfz66_5
                              try clear hfz67_0
                              try clear hfz67_1
                              try clear hfz67_10
                              try clear hfz67_11
                              try clear hfz67_12
                              try clear hfz67_13
                              try clear hfz67_14
                              try clear hfz67_2
                              try clear hfz67_3
                              try clear hfz67_4
                              try clear hfz67_5
                              try clear hfz67_6
                              try clear hfz67_7
                              try clear hfz67_8
                              try clear hfz67_9
                              try clear hfz6_0
                              try clear hfz6_1
                              try clear hfz6_10
                              try clear hfz6_11
                              try clear hfz6_12
                              try clear hfz6_13
                              try clear hfz6_14
                              try clear hfz6_2
                              try clear hfz6_3
                              try clear hfz6_4
                              try clear hfz6_5
                              try clear hfz6_6
                              try clear hfz6_7
                              try clear hfz6_8
                              try clear hfz6_9
                              try clear hfz70_0
                              try clear hfz70_1
                              try clear hfz70_2
                              try clear hfz70_3
                              try clear hfz70_4
                              try clear hfz70_5
                              try clear hfz76_0
                              try clear hfz76_1
                              try clear hfz76_2
                              try clear hfz76_3
                              try clear hfz76_4
                              try clear hfz76_5
                              try clear hfz77_0
                              try clear hfz77_1
                              try clear hfz77_10
                              try clear hfz77_11
                              try clear hfz77_12
                              try clear hfz77_13
                              try clear hfz77_14
                              try clear hfz77_2
                              try clear hfz77_3
                              try clear hfz77_4
                              try clear hfz77_5
                              try clear hfz77_6
                              try clear hfz77_7
                              try clear hfz77_8
                              try clear hfz77_9
                              try clear hfz80_0
                              try clear hfz80_1
                              try clear hfz80_2
                              try clear hfz80_3
                              try clear hfz80_4
                              try clear hfz80_5
                              try clear hfz81_0
                              try clear hfz81_1
                              try clear hfz81_10
                              try clear hfz81_11
                              try clear hfz81_12
                              try clear hfz81_13
                              try clear hfz81_14
                              try clear hfz81_2
                              try clear hfz81_3
                              try clear hfz81_4
                              try clear hfz81_5
                              try clear hfz81_6
                              try clear hfz81_7
                              try clear hfz81_8
                              try clear hfz81_9
                              try clear hfz84_0
                              try clear hfz84_1
                              try clear hfz84_2
                              try clear hfz84_3
                              try clear hfz84_4
                              try clear hfz84_5
                              try clear hfz90_0
                              try clear hfz90_1
                              try clear hfz90_2
                              try clear hfz90_3
                              try clear hfz90_4
                              try clear hfz90_5
                              try clear hfz91_0
                              try clear hfz91_1
                              try clear hfz91_10
                              try clear hfz91_11
                              try clear hfz91_12
                              try clear hfz91_13
                              try clear hfz91_14
                              try clear hfz91_2
                              try clear hfz91_3
                              try clear hfz91_4
                              try clear hfz91_5
                              try clear hfz91_6
                              try clear hfz91_7
                              try clear hfz91_8
                              try clear hfz91_9
                              try clear hfz93_0
                              try clear hfz93_1
                              try clear hfz93_2
                              try clear hfz93_3
                              try clear hfz93_4
                              try clear hfz93_5
                              try clear p2
                              obtain ⟨kq, x92_85, rfl, HA, HJ85, BK173, BK181, HB⟩ := hcut
                              cases kq with
                              | zero => exact absurd HA.out (by simp [event_Check.j4])
                              | succ kj85 =>
                                have H := HA.out
                                clear HA
                                simp only [event_Check.j4] at H
                                by_cases c94 : x92_85 = true
                                · subst c94
                                  have H1 : (some 2) = some r := by rw [if_pos rfl] at H; exact H
                                  clear H
                                  have H := H1
                                  clear H1
                                  obtain rfl := Option.some.inj H
                                  go_wp2
                                  go_ret
                                  exact ⟨by first | rfl | (simp [errW_none, errW_some] <;> rfl) | (simp [*, errW_none, errW_some] <;> rfl), by repeat (first | (with_reducible first | exact HB.out | apply below_alloc | apply pw_below_drewN | apply below_drew1 | refine below_set ?_ GE173.out | refine below_set ?_ GE181.out) | exact HB.out)⟩
                                · replace c94 := Bool.eq_false_iff.mpr c94
                                  subst c94
                                  have H1 : (if t178 = true then ((spec_Config.f kj85 a0_5 a0_6 a0_7 a0_8 a0_9 a0_10).bind fun t192 => (some t192)) else (if t179 = true then ((spec_Route.f kj85 a0_11 a0_12 l0_13 a0_14).bind fun t193 => (some t193)) else (some 0))) = some r := by rw [if_neg (show ¬ (false = true) by decide)] at H; exact H
                                  clear H
                                  have H := H1
                                  clear H1
                                  by_cases c95 : t178 = true
                                  · subst c95
                                    have H1 : ((spec_Config.f kj85 a0_5 a0_6 a0_7 a0_8 a0_9 a0_10).bind fun t192 => (some t192)) = some r := by rw [if_pos rfl] at H; exact H
                                    clear H
                                    have H := H1
                                    clear H1
                                    replace H := Option.bind_eq_some_iff.mp H
                                    obtain ⟨t192, A960, H⟩ := H
                                    replace H : (some t192) = some r := H
                                    have A96 := Aside0.mk A960
                                    clear A960
                                    obtain rfl := Option.some.inj H
                                    have hnb97 := NB181_173.out
                                    have hnc97 := NB173_181.out
                                    have hcz98_0 : wc.cell? ⟨gb181, 0, none⟩ = some (.bool t174) := bc BK181 0
                                    have hcz98_1 : wc.cell? ⟨gb181, 1, none⟩ = some (.bool t175) := bc BK181 1
                                    have hcz98_2 : wc.cell? ⟨gb181, 2, none⟩ = some (.bool t176) := bc BK181 2
                                    have hcz98_3 : wc.cell? ⟨gb181, 3, none⟩ = some (.bool t177) := bc BK181 3
                                    have hcz98_4 : wc.cell? ⟨gb181, 4, none⟩ = some (.bool true) := bc BK181 4
                                    have hcz98_5 : wc.cell? ⟨gb181, 5, none⟩ = some (.bool t179) := bc BK181 5
                                    have hfz98_0 := blk_frozen BK181.out 0
                                    have hfz98_1 := blk_frozen BK181.out 1
                                    have hfz98_2 := blk_frozen BK181.out 2
                                    have hfz98_3 := blk_frozen BK181.out 3
                                    have hfz98_4 := blk_frozen BK181.out 4
                                    have hfz98_5 := blk_frozen BK181.out 5
                                    have hcz99_0 : wc.cell? ⟨gb173, 0, none⟩ = some (.int .i64 a0_0) := bc BK173 0
                                    have hcz99_1 : wc.cell? ⟨gb173, 1, none⟩ = some (.string a0_1) := bc BK173 1
                                    have hcz99_2 : wc.cell? ⟨gb173, 2, none⟩ = some (.string a0_2) := bc BK173 2
                                    have hcz99_3 : wc.cell? ⟨gb173, 3, none⟩ = some (.int .i64 a0_3) := bc BK173 3
                                    have hcz99_4 : wc.cell? ⟨gb173, 4, none⟩ = some (.int .i64 a0_4) := bc BK173 4
                                    have hcz99_5 : wc.cell? ⟨gb173, 5, none⟩ = some (.string a0_5) := bc BK173 5
                                    have hcz99_6 : wc.cell? ⟨gb173, 6, none⟩ = some (.int .i64 a0_6) := bc BK173 6
                                    have hcz99_7 : wc.cell? ⟨gb173, 7, none⟩ = some (.int .i64 a0_7) := bc BK173 7
                                    have hcz99_8 : wc.cell? ⟨gb173, 8, none⟩ = some (.int .i64 a0_8) := bc BK173 8
                                    have hcz99_9 : wc.cell? ⟨gb173, 9, none⟩ = some (.int .i64 a0_9) := bc BK173 9
                                    have hcz99_10 : wc.cell? ⟨gb173, 10, none⟩ = some (.int .i64 a0_10) := bc BK173 10
                                    have hcz99_11 : wc.cell? ⟨gb173, 11, none⟩ = some (.string a0_11) := bc BK173 11
                                    have hcz99_12 : wc.cell? ⟨gb173, 12, none⟩ = some (.string a0_12) := bc BK173 12
                                    have hcz99_13 : wc.cell? ⟨gb173, 13, none⟩ = some (.slice A0_13 l0_13.length c0_13) := bc BK173 13
                                    have hcz99_14 : wc.cell? ⟨gb173, 14, none⟩ = some (.int .i64 a0_14) := bc BK173 14
                                    have hfz99_0 := blk_frozen BK173.out 0
                                    have hfz99_1 := blk_frozen BK173.out 1
                                    have hfz99_2 := blk_frozen BK173.out 2
                                    have hfz99_3 := blk_frozen BK173.out 3
                                    have hfz99_4 := blk_frozen BK173.out 4
                                    have hfz99_5 := blk_frozen BK173.out 5
                                    have hfz99_6 := blk_frozen BK173.out 6
                                    have hfz99_7 := blk_frozen BK173.out 7
                                    have hfz99_8 := blk_frozen BK173.out 8
                                    have hfz99_9 := blk_frozen BK173.out 9
                                    have hfz99_10 := blk_frozen BK173.out 10
                                    have hfz99_11 := blk_frozen BK173.out 11
                                    have hfz99_12 := blk_frozen BK173.out 12
                                    have hfz99_13 := blk_frozen BK173.out 13
                                    have hfz99_14 := blk_frozen BK173.out 14
                                    go_wp2_with (first | ((with_reducible refine gate_callee (f := 39) rfl ?_); refine goesL_ (some 106) rfl rfl Tryd.func39 (by kernel_rfl) rfl #[.agg #[.string a0_5, .int .i64 a0_6, .int .i64 a0_7, .int .i64 a0_8, .int .i64 a0_9, .int .i64 a0_10]] rfl (by (try simp only [List.map_toArray, List.map_cons, List.map_nil]); first | done | rfl | (simp only [List.length_drop, List.length_take]; rfl)) ?_; (with_reducible refine (spec_Config.calls kj85 a0_5 a0_6 a0_7 a0_8 a0_9 a0_10 t192 _ A96.out).mono ?_); rintro e w100 ⟨rfl, hb⟩; refine ⟨_, rfl, ?_⟩; have n0_ := Aside0.mk (blk_below (g := gb173) (pk BK173) hb); have n1_ := Aside0.mk (blk_below (g := gb181) (pk BK181) hb); have n2_ := Aside0.mk (below_step (by repeat (first | (with_reducible first | exact HB.out | apply below_alloc | apply pw_below_drewN | apply below_drew1 | refine below_set ?_ GE173.out | refine below_set ?_ GE181.out) | exact HB.out)) hb); clear BK173; clear BK181; clear HB; have BK173 := n0_; have BK181 := n1_; have HB := n2_; clear n0_ n1_ n2_; (try clear hb); (try clear hb2); (try clear hk); (try clear hi)))
                                    go_ret
                                    exact ⟨by first | rfl | (simp [errW_none, errW_some] <;> rfl) | (simp [*, errW_none, errW_some] <;> rfl), by repeat (first | (with_reducible first | exact HB.out | apply below_alloc | apply pw_below_drewN | apply below_drew1 | refine below_set ?_ GE173.out | refine below_set ?_ GE181.out) | exact HB.out)⟩
                                  · replace c95 := Bool.eq_false_iff.mpr c95
                                    subst c95
                                    have H1 : (if t179 = true then ((spec_Route.f kj85 a0_11 a0_12 l0_13 a0_14).bind fun t193 => (some t193)) else (some 0)) = some r := by rw [if_neg (show ¬ (false = true) by decide)] at H; exact H
                                    clear H
                                    have H := H1
                                    clear H1
                                    by_cases c101 : t179 = true
                                    · subst c101
                                      have H1 : ((spec_Route.f kj85 a0_11 a0_12 l0_13 a0_14).bind fun t193 => (some t193)) = some r := by rw [if_pos rfl] at H; exact H
                                      clear H
                                      have H := H1
                                      clear H1
                                      replace H := Option.bind_eq_some_iff.mp H
                                      obtain ⟨t193, A1020, H⟩ := H
                                      replace H : (some t193) = some r := H
                                      have A102 := Aside0.mk A1020
                                      clear A1020
                                      obtain rfl := Option.some.inj H
                                      have hnb103 := NB181_173.out
                                      have hnc103 := NB173_181.out
                                      have hcz104_0 : wc.cell? ⟨gb181, 0, none⟩ = some (.bool t174) := bc BK181 0
                                      have hcz104_1 : wc.cell? ⟨gb181, 1, none⟩ = some (.bool t175) := bc BK181 1
                                      have hcz104_2 : wc.cell? ⟨gb181, 2, none⟩ = some (.bool t176) := bc BK181 2
                                      have hcz104_3 : wc.cell? ⟨gb181, 3, none⟩ = some (.bool t177) := bc BK181 3
                                      have hcz104_4 : wc.cell? ⟨gb181, 4, none⟩ = some (.bool false) := bc BK181 4
                                      have hcz104_5 : wc.cell? ⟨gb181, 5, none⟩ = some (.bool true) := bc BK181 5
                                      have hfz104_0 := blk_frozen BK181.out 0
                                      have hfz104_1 := blk_frozen BK181.out 1
                                      have hfz104_2 := blk_frozen BK181.out 2
                                      have hfz104_3 := blk_frozen BK181.out 3
                                      have hfz104_4 := blk_frozen BK181.out 4
                                      have hfz104_5 := blk_frozen BK181.out 5
                                      have hcz105_0 : wc.cell? ⟨gb173, 0, none⟩ = some (.int .i64 a0_0) := bc BK173 0
                                      have hcz105_1 : wc.cell? ⟨gb173, 1, none⟩ = some (.string a0_1) := bc BK173 1
                                      have hcz105_2 : wc.cell? ⟨gb173, 2, none⟩ = some (.string a0_2) := bc BK173 2
                                      have hcz105_3 : wc.cell? ⟨gb173, 3, none⟩ = some (.int .i64 a0_3) := bc BK173 3
                                      have hcz105_4 : wc.cell? ⟨gb173, 4, none⟩ = some (.int .i64 a0_4) := bc BK173 4
                                      have hcz105_5 : wc.cell? ⟨gb173, 5, none⟩ = some (.string a0_5) := bc BK173 5
                                      have hcz105_6 : wc.cell? ⟨gb173, 6, none⟩ = some (.int .i64 a0_6) := bc BK173 6
                                      have hcz105_7 : wc.cell? ⟨gb173, 7, none⟩ = some (.int .i64 a0_7) := bc BK173 7
                                      have hcz105_8 : wc.cell? ⟨gb173, 8, none⟩ = some (.int .i64 a0_8) := bc BK173 8
                                      have hcz105_9 : wc.cell? ⟨gb173, 9, none⟩ = some (.int .i64 a0_9) := bc BK173 9
                                      have hcz105_10 : wc.cell? ⟨gb173, 10, none⟩ = some (.int .i64 a0_10) := bc BK173 10
                                      have hcz105_11 : wc.cell? ⟨gb173, 11, none⟩ = some (.string a0_11) := bc BK173 11
                                      have hcz105_12 : wc.cell? ⟨gb173, 12, none⟩ = some (.string a0_12) := bc BK173 12
                                      have hcz105_13 : wc.cell? ⟨gb173, 13, none⟩ = some (.slice A0_13 l0_13.length c0_13) := bc BK173 13
                                      have hcz105_14 : wc.cell? ⟨gb173, 14, none⟩ = some (.int .i64 a0_14) := bc BK173 14
                                      have hfz105_0 := blk_frozen BK173.out 0
                                      have hfz105_1 := blk_frozen BK173.out 1
                                      have hfz105_2 := blk_frozen BK173.out 2
                                      have hfz105_3 := blk_frozen BK173.out 3
                                      have hfz105_4 := blk_frozen BK173.out 4
                                      have hfz105_5 := blk_frozen BK173.out 5
                                      have hfz105_6 := blk_frozen BK173.out 6
                                      have hfz105_7 := blk_frozen BK173.out 7
                                      have hfz105_8 := blk_frozen BK173.out 8
                                      have hfz105_9 := blk_frozen BK173.out 9
                                      have hfz105_10 := blk_frozen BK173.out 10
                                      have hfz105_11 := blk_frozen BK173.out 11
                                      have hfz105_12 := blk_frozen BK173.out 12
                                      have hfz105_13 := blk_frozen BK173.out 13
                                      have hfz105_14 := blk_frozen BK173.out 14
                                      go_wp2_with (first | ((with_reducible refine gate_callee (f := 40) rfl ?_); refine goesL_ (some 112) rfl rfl Tryd.func40 (by kernel_rfl) rfl #[.agg #[.string a0_11, .string a0_12, .slice A0_13 l0_13.length c0_13, .int .i64 a0_14]] rfl (by (try simp only [List.map_toArray, List.map_cons, List.map_nil]); first | done | rfl | (simp only [List.length_drop, List.length_take]; rfl)) ?_; (with_reducible refine (spec_Route.calls kj85 a0_11 a0_12 _ _ l0_13 a0_14 t193 _ ?side3 ?side1 ?side2 A102.out).mono ?_); (case side1 => repeat (first | exact (Kd.C_below HR0_13.out HB.out) | (with_reducible refine Kd.C_alloc ?_ _) | (with_reducible refine Kd.C_drewN ?_ _) | (with_reducible refine Kd.C_drew ?_))); (case side2 => exact HC0_13.out); (case side3 => first | exact hLd_.out | exact hLd_ | exact ⟨LaidW.below hLd_.out (by repeat (first | (with_reducible first | exact HB.out | apply below_alloc | apply pw_below_drewN | apply below_drew1 | refine below_set ?_ GE173.out | refine below_set ?_ GE181.out) | exact HB.out))⟩ | exact ⟨LaidW.below hLd_.out (by repeat (first | exact Below.refl _ _ | apply below_alloc | apply pw_below_drewN | apply below_drew1))⟩); rintro e w106 ⟨rfl, hb⟩; refine ⟨_, rfl, ?_⟩; have n0_ := Aside0.mk (blk_below (g := gb173) (pk BK173) hb); have n1_ := Aside0.mk (blk_below (g := gb181) (pk BK181) hb); have n2_ := Aside0.mk (below_step (by repeat (first | (with_reducible first | exact HB.out | apply below_alloc | apply pw_below_drewN | apply below_drew1 | refine below_set ?_ GE173.out | refine below_set ?_ GE181.out) | exact HB.out)) hb); clear BK173; clear BK181; clear HB; have BK173 := n0_; have BK181 := n1_; have HB := n2_; clear n0_ n1_ n2_; (try clear hb); (try clear hb2); (try clear hk); (try clear hi)))
                                      go_ret
                                      exact ⟨by first | rfl | (simp [errW_none, errW_some] <;> rfl) | (simp [*, errW_none, errW_some] <;> rfl), by repeat (first | (with_reducible first | exact HB.out | apply below_alloc | apply pw_below_drewN | apply below_drew1 | refine below_set ?_ GE173.out | refine below_set ?_ GE181.out) | exact HB.out)⟩
                                    · replace c101 := Bool.eq_false_iff.mpr c101
                                      subst c101
                                      have H1 : (some 0) = some r := by rw [if_neg (show ¬ (false = true) by decide)] at H; exact H
                                      clear H
                                      have H := H1
                                      clear H1
                                      obtain rfl := Option.some.inj H
                                      have hnb107 := NB181_173.out
                                      have hnc107 := NB173_181.out
                                      have hcz108_0 : wc.cell? ⟨gb181, 0, none⟩ = some (.bool t174) := bc BK181 0
                                      have hcz108_1 : wc.cell? ⟨gb181, 1, none⟩ = some (.bool t175) := bc BK181 1
                                      have hcz108_2 : wc.cell? ⟨gb181, 2, none⟩ = some (.bool t176) := bc BK181 2
                                      have hcz108_3 : wc.cell? ⟨gb181, 3, none⟩ = some (.bool t177) := bc BK181 3
                                      have hcz108_4 : wc.cell? ⟨gb181, 4, none⟩ = some (.bool false) := bc BK181 4
                                      have hcz108_5 : wc.cell? ⟨gb181, 5, none⟩ = some (.bool false) := bc BK181 5
                                      have hfz108_0 := blk_frozen BK181.out 0
                                      have hfz108_1 := blk_frozen BK181.out 1
                                      have hfz108_2 := blk_frozen BK181.out 2
                                      have hfz108_3 := blk_frozen BK181.out 3
                                      have hfz108_4 := blk_frozen BK181.out 4
                                      have hfz108_5 := blk_frozen BK181.out 5
                                      go_wp2
                                      go_ret
                                      exact ⟨by first | rfl | (simp [errW_none, errW_some] <;> rfl) | (simp [*, errW_none, errW_some] <;> rfl), by repeat (first | (with_reducible first | exact HB.out | apply below_alloc | apply pw_below_drewN | apply below_drew1 | refine below_set ?_ GE173.out | refine below_set ?_ GE181.out) | exact HB.out)⟩
  · replace c3 := Bool.eq_false_iff.mpr c3
    subst c3
    have H1 : (some 12) = some r := by rw [if_neg (show ¬ (false = true) by decide)] at H; exact H
    clear H
    have H := H1
    clear H1
    obtain rfl := Option.some.inj H
    go_enter Tryd.func15, Tryd.ntmps15
    go_wp2_with (first | ((with_reducible refine gate_dst (N := 1) rfl ?_); refine box_event ?hg (N := 1) ?hd (cs := #[.int .i64 a0_0, .string a0_1, .string a0_2, .int .i64 a0_3, .int .i64 a0_4, .string a0_5, .int .i64 a0_6, .int .i64 a0_7, .int .i64 a0_8, .int .i64 a0_9, .int .i64 a0_10, .string a0_11, .string a0_12, .slice A0_13 l0_13.length c0_13, .int .i64 a0_14]) (t := 28) ?hr ?_; (case hd => rfl); (case hg => rfl); (case hr => first | (go_simp; done) | (go_simp; rfl)); intro gb173 hg w109 hbox hb; have n0_ := Aside0.mk (below_step (by repeat (first | (with_reducible first | exact HB.out | apply below_alloc | apply pw_below_drewN | apply below_drew1) | exact HB.out)) hb); have n1_ := Aside0.mk (hbox); have n2_ := Aside0.mk ((by rw [hg]; exact (below_size (by repeat (first | (with_reducible first | exact HB.out | apply below_alloc | apply pw_below_drewN | apply below_drew1) | exact HB.out))) : w.heap.size ≤ gb173)); have n3_ := Aside0.mk ((by rw [hg]; exact (below_size (by repeat (first | (with_reducible first | exact HB.out | apply below_alloc | apply pw_below_drewN | apply below_drew1) | exact HB.out))) : w.heap.size ≤ gb173)); clear HB; have HB := n0_; have BK173 := n1_; have GW173 := n2_; have GE173 := n3_; clear n0_ n1_ n2_ n3_; clear hb hbox hg; have hcz110_0 : w109.cell? ⟨gb173, 0, none⟩ = some (.int .i64 a0_0) := bc BK173 0; have hcz110_1 : w109.cell? ⟨gb173, 1, none⟩ = some (.string a0_1) := bc BK173 1; have hcz110_2 : w109.cell? ⟨gb173, 2, none⟩ = some (.string a0_2) := bc BK173 2; have hcz110_3 : w109.cell? ⟨gb173, 3, none⟩ = some (.int .i64 a0_3) := bc BK173 3; have hcz110_4 : w109.cell? ⟨gb173, 4, none⟩ = some (.int .i64 a0_4) := bc BK173 4; have hcz110_5 : w109.cell? ⟨gb173, 5, none⟩ = some (.string a0_5) := bc BK173 5; have hcz110_6 : w109.cell? ⟨gb173, 6, none⟩ = some (.int .i64 a0_6) := bc BK173 6; have hcz110_7 : w109.cell? ⟨gb173, 7, none⟩ = some (.int .i64 a0_7) := bc BK173 7; have hcz110_8 : w109.cell? ⟨gb173, 8, none⟩ = some (.int .i64 a0_8) := bc BK173 8; have hcz110_9 : w109.cell? ⟨gb173, 9, none⟩ = some (.int .i64 a0_9) := bc BK173 9; have hcz110_10 : w109.cell? ⟨gb173, 10, none⟩ = some (.int .i64 a0_10) := bc BK173 10; have hcz110_11 : w109.cell? ⟨gb173, 11, none⟩ = some (.string a0_11) := bc BK173 11; have hcz110_12 : w109.cell? ⟨gb173, 12, none⟩ = some (.string a0_12) := bc BK173 12; have hcz110_13 : w109.cell? ⟨gb173, 13, none⟩ = some (.slice A0_13 l0_13.length c0_13) := bc BK173 13; have hcz110_14 : w109.cell? ⟨gb173, 14, none⟩ = some (.int .i64 a0_14) := bc BK173 14; have hfz110_0 := blk_frozen BK173.out 0; have hfz110_1 := blk_frozen BK173.out 1; have hfz110_2 := blk_frozen BK173.out 2; have hfz110_3 := blk_frozen BK173.out 3; have hfz110_4 := blk_frozen BK173.out 4; have hfz110_5 := blk_frozen BK173.out 5; have hfz110_6 := blk_frozen BK173.out 6; have hfz110_7 := blk_frozen BK173.out 7; have hfz110_8 := blk_frozen BK173.out 8; have hfz110_9 := blk_frozen BK173.out 9; have hfz110_10 := blk_frozen BK173.out 10; have hfz110_11 := blk_frozen BK173.out 11; have hfz110_12 := blk_frozen BK173.out 12; have hfz110_13 := blk_frozen BK173.out 13; have hfz110_14 := blk_frozen BK173.out 14) | ((with_reducible refine gate_callee (f := 30) rfl ?_); refine goesL_ (some 8) rfl rfl Tryd.func30 (by kernel_rfl) rfl #[.int .i64 a0_0] rfl (by (try simp only [List.map_toArray, List.map_cons, List.map_nil]); first | done | rfl | (simp only [List.length_drop, List.length_take]; rfl)) ?_; (with_reducible refine (event_shape.calls k a0_0 t174 t175 t176 t177 t178 t179 false _ A2.out).mono ?_); rintro e w111 ⟨rfl, hb⟩; refine ⟨_, rfl, ?_⟩; have n0_ := Aside0.mk (blk_below (g := gb173) (pk BK173) hb); have n1_ := Aside0.mk (below_step (by repeat (first | (with_reducible first | exact HB.out | apply below_alloc | apply pw_below_drewN | apply below_drew1 | refine below_set ?_ GE173.out) | exact HB.out)) hb); clear BK173; clear HB; have BK173 := n0_; have HB := n1_; clear n0_ n1_; (try clear hb); (try clear hb2); (try clear hk); (try clear hi)) | ((with_reducible refine gate_dst (N := 3) rfl ?_); refine box_event ?hg (N := 3) ?hd (cs := #[.bool false, .bool false, .bool false, .bool false, .bool false, .bool false]) (t := 66) ?hr ?_; (case hd => rfl); (case hg => rfl); (case hr => first | (go_simp; done) | (go_simp; rfl)); intro gb181 hg w112 hbox hb; have n0_ := Aside0.mk (blk_below (g := gb173) (pk BK173) hb); have n1_ := Aside0.mk (below_step (by repeat (first | (with_reducible first | exact HB.out | apply below_alloc | apply pw_below_drewN | apply below_drew1 | refine below_set ?_ GE173.out) | exact HB.out)) hb); have n2_ := Aside0.mk (hbox); have n3_ := Aside0.mk ((by rw [hg]; exact (below_size (by repeat (first | (with_reducible first | exact HB.out | apply below_alloc | apply pw_below_drewN | apply below_drew1 | refine below_set ?_ GE173.out) | exact HB.out))) : w.heap.size ≤ gb181)); have n4_ := Aside0.mk ((by rw [hg]; exact (below_size (by repeat (first | (with_reducible first | exact HB.out | apply below_alloc | apply pw_below_drewN | apply below_drew1 | refine below_set ?_ GE173.out) | exact HB.out))) : w.heap.size ≤ gb181)); have n5_ := Aside0.mk ((ne_lt hg (pk BK173) : gb173 ≠ gb181)); have n6_ := Aside0.mk ((ne_gt hg (pk BK173) : gb181 ≠ gb173)); clear BK173; clear HB; have BK173 := n0_; have HB := n1_; have BK181 := n2_; have GW181 := n3_; have GE181 := n4_; have NB173_181 := n5_; have NB181_173 := n6_; clear n0_ n1_ n2_ n3_ n4_ n5_ n6_; clear hb hbox hg; have hnb113 := NB181_173.out; have hnc113 := NB173_181.out; have hcz114_0 : w112.cell? ⟨gb181, 0, none⟩ = some (.bool false) := bc BK181 0; have hcz114_1 : w112.cell? ⟨gb181, 1, none⟩ = some (.bool false) := bc BK181 1; have hcz114_2 : w112.cell? ⟨gb181, 2, none⟩ = some (.bool false) := bc BK181 2; have hcz114_3 : w112.cell? ⟨gb181, 3, none⟩ = some (.bool false) := bc BK181 3; have hcz114_4 : w112.cell? ⟨gb181, 4, none⟩ = some (.bool false) := bc BK181 4; have hcz114_5 : w112.cell? ⟨gb181, 5, none⟩ = some (.bool false) := bc BK181 5; have hfz114_0 := blk_frozen BK181.out 0; have hfz114_1 := blk_frozen BK181.out 1; have hfz114_2 := blk_frozen BK181.out 2; have hfz114_3 := blk_frozen BK181.out 3; have hfz114_4 := blk_frozen BK181.out 4; have hfz114_5 := blk_frozen BK181.out 5))
    go_ret
    exact ⟨by first | rfl | (simp [errW_none, errW_some] <;> rfl) | (simp [*, errW_none, errW_some] <;> rfl), by repeat (first | (with_reducible first | exact HB.out | apply below_alloc | apply pw_below_drewN | apply below_drew1 | refine below_set ?_ GE173.out | refine below_set ?_ GE181.out) | exact HB.out)⟩
end

end Go.Proofs.YtalpoojepffldaaDoor.Ma
