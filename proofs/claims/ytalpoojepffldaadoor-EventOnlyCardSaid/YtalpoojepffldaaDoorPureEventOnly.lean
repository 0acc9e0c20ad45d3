/- Bytes that are read are those that are written of what was read. -/
import Derived.Test.YtalpoojepffldaaDoorPb
import Derived.Test.YtalpoojepffldaaDoorPd
import Derived.Test.YtalpoojepffldaaDoorZOnly
namespace Go.Proofs.YtalpoojepffldaaDoor.Pure
open Go.RowKit Go.Proofs.YtalpoojepffldaaDoor.Ma Go.Proofs.YtalpoojepffldaaDoor.Plain Go.Proofs.YtalpoojepffldaaDoorW.PrintWords Go.Proofs.YtalpoojepffldaaDoorW.PrintLast
set_option linter.unusedVariables false
set_option linter.unusedSimpArgs false

theorem set_bys {l : List Int} (h : Bys l) (i : Nat) (x : Int) : Bys (l.set i (x % 256)) := by
  intro y hy
  rcases List.mem_or_eq_of_mem_set hy with h1 | rfl
  · exact h y h1
  · omega
theorem EventOnly : damperlaw3_EventOnly.Pure := by
  intro a0 a1 a2 a3 a4_0 a4_1 a4_2 a4_3 a4_4 a4_5 l5 a6 a7 _ _ _ _ _ _ _ _ _ _ hl _ _
  refine ⟨200, ?_⟩
  obtain ⟨kd, nm, tg, n, dr, c0, c1, c2, c3, c4, c5, rn, rc, ts, ro, hm, M⟩ := make_ok 200 (by decide) a0 a1 a2 a3 a4_0 a4_1 a4_2 a4_3 a4_4 a4_5 l5 (by have := hl.1; simp only [maxLen] at this; omega)
  have F := M.fit
  have hb := bytes_eq F 200 (by decide) (shp kd).1 (shp kd).2.1 (shp kd).2.2.1 (shp kd).2.2.2.1 (shp kd).2.2.2.2.1 (shp kd).2.2.2.2.2.1 (shp kd).2.2.2.2.2.2 (shp_eq 198 kd)
  have hln := bytesV_len F (shp kd).1 (shp kd).2.1 (shp kd).2.2.1 (shp kd).2.2.2.1 (shp kd).2.2.2.2.1 (shp kd).2.2.2.2.2.1
  have hby := bytesV_bys F (shp kd).1 (shp kd).2.1 (shp kd).2.2.1 (shp kd).2.2.2.1 (shp kd).2.2.2.2.1 (shp kd).2.2.2.2.2.1
  have hpos : 0 < (bytesV (shp kd).1 (shp kd).2.1 (shp kd).2.2.1 (shp kd).2.2.2.1 (shp kd).2.2.2.2.1 (shp kd).2.2.2.2.2.1 kd nm tg n dr c0 c1 c2 c3 c4 c5 rn rc ts ro).length := by
    unfold bytesV
    rw [List.length_cons]
    omega
  unfold damperlaw3_EventOnly.f
  rw [show damperlaw3_known.f = some true from rfl, Option.bind_some, if_pos rfl, hm, Option.bind_some]
  dsimp only
  rw [hb, Option.bind_some]
  generalize bytesV (shp kd).1 (shp kd).2.1 (shp kd).2.2.1 (shp kd).2.2.2.1 (shp kd).2.2.2.2.1 (shp kd).2.2.2.2.2.1 kd nm tg n dr c0 c1 c2 c3 c4 c5 rn rc ts ro = b at hln hby hpos
  have hw := wi_in a6 (b.length : Int) (by omega) (by omega)
  rw [if_neg (by omega), Option.bind_some, List.nil_append, if_pos (by simp only [List.length_nil]; omega), Option.bind_some, if_neg (by omega), if_pos hw.1, if_pos hw.2, Option.bind_some, Option.bind_some, if_pos (by rw [List.length_set]; simp only [List.length_nil]; omega), List.nil_append]
  have ht := set_bys hby (wi a6 (b.length : Int)).toNat (rd b (wi a6 (b.length : Int)) + a7)
  generalize b.set (wi a6 (b.length : Int)).toNat ((rd b (wi a6 (b.length : Int)) + a7) % 256) = t at ht
  obtain ⟨kd, nm, tg, n, dr, c0, c1, c2, c3, c4, c5, rn, rc, ts, ro, no, hp, h0, h1⟩ := parse_any 200 (by decide) t ht
  rw [hp, Option.bind_some]
  dsimp only
  by_cases hno : no = 0
  · obtain ⟨F, hbt, hck⟩ := h0 hno
    rw [if_pos hno, bytes_eq F 200 (by decide) (shp kd).1 (shp kd).2.1 (shp kd).2.2.1 (shp kd).2.2.2.1 (shp kd).2.2.2.2.1 (shp kd).2.2.2.2.2.1 (shp kd).2.2.2.2.2.2 (shp_eq 198 kd), Option.bind_some, hbt, if_pos rfl, chk_eq 200 (by decide) _ _ _ _ _ _ _ _ _ _ _ _ _ _ _ (by have := F.nmF; omega) (fun t ht => by have := (F.tsF t ht).1; omega), Option.bind_some, hck]
    rfl
  · obtain ⟨rfl, rfl, rfl⟩ := h1 hno
    rw [if_neg hno, if_pos rfl, if_pos rfl, nil_tl]
    rfl
end Go.Proofs.YtalpoojepffldaaDoor.Pure
