/- A name with one sign that may not be, anywhere, is none; with one that may be, in the midst, it is one. -/
import Derived.Test.YtgnnbnbmjifgfaaDoorMax54
import Derived.Test.YtgnnbnbmjifgfaaDoorPlain
import Derived.Test.YtgnnbnbmjifgfaaDoorPlainM
namespace Go.Proofs.YtgnnbnbmjifgfaaDoor.Pure
open Go.RowKit Go.Proofs.YtgnnbnbmjifgfaaDoor.Ma Go.Proofs.YtgnnbnbmjifgfaaDoorW.PrintWords Go.Proofs.YtgnnbnbmjifgfaaDoorW.PrintLast Go.Proofs.YtgnnbnbmjifgfaaDoor.Plain

def twelve : List UInt8 := [97, 98, 99, 100, 101, 102, 103, 104, 105, 106, 107, 108]
def bads : List ByteArray := [(⟨#[65]⟩ : ByteArray), (⟨#[95]⟩ : ByteArray), (⟨#[46]⟩ : ByteArray), (⟨#[32]⟩ : ByteArray), (⟨#[195, 169]⟩ : ByteArray), (⟨#[0]⟩ : ByteArray), (⟨#[47]⟩ : ByteArray), (⟨#[58]⟩ : ByteArray), (⟨#[123]⟩ : ByteArray)]
def goods : List ByteArray := [(⟨#[45]⟩ : ByteArray), (⟨#[48]⟩ : ByteArray), (⟨#[57]⟩ : ByteArray), (⟨#[97]⟩ : ByteArray), (⟨#[122]⟩ : ByteArray)]
def put (n j : Nat) (m : List UInt8) : List UInt8 := (twelve.take n).take j ++ m ++ (twelve.take n).drop j
def badOk (n j x : Nat) : Bool := !shortL (put n j (rdOf ByteArray.empty bads (x : Int)).data.toList) 16 && !shortL (put n j (rdOf ByteArray.empty bads (x : Int)).data.toList) 8
def goodOk (n j y : Nat) : Bool := shortL (put n j (rdOf ByteArray.empty goods (y : Int)).data.toList) 16 && (shortL (put n j (rdOf ByteArray.empty goods (y : Int)).data.toList) 8 == decide ((put n j (rdOf ByteArray.empty goods (y : Int)).data.toList).length ≤ 8))
theorem all_bad : (List.range 11).all (fun n => (List.range (n + 1)).all fun j => (List.range 9).all fun x => badOk (n + 2) (j + 1) x) = true := by kernel_rfl
theorem all_goods : (List.range 11).all (fun n => (List.range (n + 1)).all fun j => (List.range 5).all fun y => goodOk (n + 2) (j + 1) y) = true := by kernel_rfl
theorem bad_at (n j x : Nat) (hn : n < 11) (hj : j < n + 1) (hx : x < 9) : badOk (n + 2) (j + 1) x = true :=
  List.all_eq_true.1 (List.all_eq_true.1 (List.all_eq_true.1 all_bad n (List.mem_range.2 hn)) j (List.mem_range.2 hj)) x (List.mem_range.2 hx)
theorem good_at (n j y : Nat) (hn : n < 11) (hj : j < n + 1) (hy : y < 5) : goodOk (n + 2) (j + 1) y = true :=
  List.all_eq_true.1 (List.all_eq_true.1 (List.all_eq_true.1 all_goods n (List.mem_range.2 hn)) j (List.mem_range.2 hj)) y (List.mem_range.2 hy)
theorem bads_small (x : Nat) (hx : x < 9) : (rdOf ByteArray.empty bads (x : Int)).size ≤ 2 := by
  have : ∀ x : Nat, x < 9 → (rdOf ByteArray.empty bads (x : Int)).size ≤ 2 := by decide
  exact this x hx
theorem goods_small (x : Nat) (hx : x < 5) : (rdOf ByteArray.empty goods (x : Int)).size ≤ 2 := by
  have : ∀ x : Nat, x < 5 → (rdOf ByteArray.empty goods (x : Int)).size ≤ 2 := by decide
  exact this x hx
theorem put_ba (s m : ByteArray) (n j : Nat) (hs : s.data.toList = twelve.take n) : ((s.extract 0 j ++ m) ++ s.extract j s.size).data.toList = put n j m.data.toList := by
  rw [ByteArray.data_append, Array.toList_append, ByteArray.data_append, Array.toList_append, Lib.extract_to_end, take_ba, hs]
  rfl
theorem LabelSigns : damperlaw1_LabelSigns.Pure := by
  intro a0 a1 a2 w0 w1 w2
  refine ⟨99 + 1, ?_⟩
  unfold damperlaw1_LabelSigns.f
  rw [show ([(⟨#[65]⟩ : ByteArray), (⟨#[95]⟩ : ByteArray), (⟨#[46]⟩ : ByteArray), (⟨#[32]⟩ : ByteArray), (⟨#[195, 169]⟩ : ByteArray), (⟨#[0]⟩ : ByteArray), (⟨#[47]⟩ : ByteArray), (⟨#[58]⟩ : ByteArray), (⟨#[123]⟩ : ByteArray)] : List ByteArray) = bads from rfl,
    show ([(⟨#[45]⟩ : ByteArray), (⟨#[48]⟩ : ByteArray), (⟨#[57]⟩ : ByteArray), (⟨#[97]⟩ : ByteArray), (⟨#[122]⟩ : ByteArray)] : List ByteArray) = goods from rfl]
  rw [known_ok, Option.bind_some, if_pos rfl]
  obtain ⟨u, hu, u0, u1⟩ := within_ok a2 11 (by decide) (by decide) w2
  obtain ⟨u, rfl⟩ := Int.eq_ofNat_of_zero_le u0
  rw [hu, Option.bind_some, w64_small (2 + (u : Int)) (by omega) (by omega), if_pos (by omega), if_pos (by omega)]
  obtain ⟨s, hS⟩ : ∃ s : ByteArray, (⟨#[97, 98, 99, 100, 101, 102, 103, 104, 105, 106, 107, 108]⟩ : ByteArray).extract 0 (2 + (u : Int)).toNat = s := ⟨_, rfl⟩
  rw [hS]
  have hs : s.data.toList = twelve.take (u + 2) := by
    rw [← hS, show (2 + (u : Int)).toNat = u + 2 by omega, take_ba]; rfl
  have hz : s.size = u + 2 := by
    have : s.size = s.data.toList.length := rfl
    rw [this, hs, List.length_take]; show min _ 12 = _; omega
  clear hS
  obtain ⟨v, hv, v0, v1⟩ := within_ok a0 (((u + 1 : Nat) : Int)) (by omega) (by omega) w0
  obtain ⟨v, rfl⟩ := Int.eq_ofNat_of_zero_le v0
  obtain ⟨x, hx, x0, x1⟩ := within_ok a1 9 (by decide) (by decide) w1
  obtain ⟨x, rfl⟩ := Int.eq_ofNat_of_zero_le x0
  obtain ⟨y, hy, y0, y1⟩ := within_ok a1 5 (by decide) (by decide) w1
  obtain ⟨y, rfl⟩ := Int.eq_ofNat_of_zero_le y0
  rw [w64_small ((s.size : Int) - 1) (by omega) (by omega), show ((s.size : Int) - 1) = ((u + 1 : Nat) : Int) by omega, hv, Option.bind_some, Option.bind_some, hx, Option.bind_some, if_pos x0, if_pos (show ((x : Nat) : Int) < (bads.length : Int) from x1), Option.bind_some, hy, Option.bind_some, if_pos y0, if_pos (show ((y : Nat) : Int) < (goods.length : Int) from y1),
    w64_small (1 + (v : Int)) (by omega) (by omega), if_pos (by omega), if_pos (by omega), show (1 + (v : Int)).toNat = v + 1 by omega]
  have e1 : (s.extract 0 (v + 1)).size = v + 1 := by rw [ByteArray.size_extract]; omega
  have e2 : (s.extract (v + 1) s.size).size = s.size - (v + 1) := by rw [ByteArray.size_extract]; omega
  have bx := bads_small x (by omega)
  have by' := goods_small y (by omega)
  have ba := bad_at u v x (by omega) (by omega) (by omega)
  have ga := good_at u v y (by omega) (by omega) (by omega)
  have pb := put_ba s (rdOf ByteArray.empty bads (x : Int)) (u + 2) (v + 1) hs
  have pg := put_ba s (rdOf ByteArray.empty goods (y : Int)) (u + 2) (v + 1) hs
  unfold badOk at ba
  unfold goodOk at ga
  rw [← pb] at ba
  rw [← pg] at ga
  simp only [Bool.and_eq_true, Bool.not_eq_true', beq_iff_eq] at ba ga
  generalize rdOf ByteArray.empty bads (x : Int) = b at *
  generalize rdOf ByteArray.empty goods (y : Int) = g at *
  have z1 : (s.extract 0 (v + 1) ++ b).size = v + 1 + b.size := by rw [ByteArray.size_append, e1]
  have z2 : (s.extract 0 (v + 1) ++ g).size = v + 1 + g.size := by rw [ByteArray.size_append, e1]
  rw [if_pos (by omega), if_pos (by omega), if_pos (by omega), if_pos (by omega), name_eq, Option.bind_some, ba.1, if_neg (by decide), tag_eq, Option.bind_some, ba.2, if_neg (by decide), name_eq, Option.bind_some, ga.1, if_pos rfl, tag_eq, Option.bind_some, ga.2]
  have hlen : ((s.extract 0 (v + 1) ++ g) ++ s.extract (v + 1) s.size).size ≤ 20 := by rw [ByteArray.size_append, z2, e2]; omega
  have hq : ((s.extract 0 (v + 1) ++ g) ++ s.extract (v + 1) s.size).size = ((s.extract 0 (v + 1) ++ g) ++ s.extract (v + 1) s.size).data.toList.length := rfl
  generalize (s.extract 0 (v + 1) ++ g) ++ s.extract (v + 1) s.size = t at *
  rw [if_pos, rname_eq t (by omega) (99 + 1) (by omega), Option.bind_some, ga.1]
  rw [show decide ((t.size : Int) ≤ 8) = decide (t.data.toList.length ≤ 8) from decide_eq_decide.2 (by omega)]
  simp
end Go.Proofs.YtgnnbnbmjifgfaaDoor.Pure
