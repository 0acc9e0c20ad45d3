-- Written by a program of this session (wip/tools/myprint.py), in the form of the kit's print. Not trusted: Lean checks it.
import Derived.Test.YtalpoojepffldaaDoorMax0
import Derived.Test.YtalpoojepffldaaDoorMax3
import Derived.Test.YtalpoojepffldaaDoorMax19
import Derived.Test.YtalpoojepffldaaDoorMax21
namespace Go.Proofs.YtalpoojepffldaaDoor.Ma
open Go.RowKit Go.Proofs.YtalpoojepffldaaDoorW.PrintWords Go.Proofs.YtalpoojepffldaaDoorW.PrintLast Go.Proofs.YtalpoojepffldaaDoorW.PrintMore
attribute [local go_sem] max2_int min2_int max_two min_two max_three min_three max_four min_four   -- for this text's walks alone
set_option linter.unusedVariables false
set_option linter.unusedSimpArgs false

/-! ### damperlaw3_known: function 12 -/
abbrev kbP : Kd Int := Kd.int .u8
/-- The reader's box: what is left, and whether it was cut; what is left lies where it came in. -/
def Rd (g : Nat) (w0 W : World) (bs : List Int) (cut : Bool) : Prop := ∃ A c, W.heap[g]? = some (.cells #[.slice A bs.length c, .bool cut] 87 (0, 0)) ∧ Kd.C kbP w0 A bs.length bs ∧ bs.length ≤ c
/-- Whatever lay but the box lies as it lay. -/
def Kpx (g : Nat) (W W' : World) : Prop := W.heap.size ≤ W'.heap.size ∧ ∀ k, k < W.heap.size → k ≠ g → W'.heap[k]? = W.heap[k]?
def takeC (bs : List Int) (cut : Bool) (n : Nat) : Bool := cut || decide ((bs.length : Int) < (n : Int))
def takeV (bs : List Int) (cut : Bool) (n : Nat) : List Int := if takeC bs cut n then List.replicate n 0 else bs.take n
def takeR (bs : List Int) (cut : Bool) (n : Nat) : List Int := if takeC bs cut n then bs else bs.drop n
theorem takeV_len (bs : List Int) (cut : Bool) (n : Nat) : (takeV bs cut n).length = n := by
  unfold takeV
  split
  · simp
  · rename_i h
    unfold takeC at h
    simp at h
    rw [List.length_take]
    omega
set_option maxHeartbeats 8000000 in
set_option maxRecDepth 100000 in
theorem take_calls (g n : Nat) (w0 W : World) (bs : List Int) (cut : Bool) (hn : n ≤ 1000000) (hg : w0.heap.size ≤ g) (hb : Below w0.heap.size w0 W) (h : Rd g w0 W bs cut) :
    Calls Tryd.prog 77 #[.pointer (some ⟨g, 0, none⟩), .int .i64 (n : Int)] W fun e W' => ∃ A c, e = .returned (.slice A n c) ∧ Kd.C kbP W' A n (takeV bs cut n) ∧ n ≤ c ∧ Rd g w0 W' (takeR bs cut n) (takeC bs cut n) ∧ Kpx g W W' ∧ Below w0.heap.size w0 W' := by
  obtain ⟨A, c, hbx, hC, hc⟩ := h
  obtain ⟨i0, hi0, hzz⟩ := Option.map_eq_some_iff.1 (show (Tryd.prog.info? 5).map (fun i => (i.zero, i.size, i.bytes)) = some (some (.int .u8 0), 1, 1) by kernel_rfl)
  simp only [Prod.mk.injEq] at hzz
  obtain ⟨hz0, hs0, hb0⟩ := hzz
  have c0 : W.cell? ⟨g, 0, none⟩ = some (.slice A bs.length c) := (blk_cell hbx 0).trans rfl
  have c1 : W.cell? ⟨g, 1, none⟩ = some (.bool cut) := (blk_cell hbx 1).trans rfl
  have f0 := blk_frozen hbx 0
  have f1 := blk_frozen hbx 1
  have HBX := Aside0.mk hbx
  have HCC := Aside0.mk hC
  have HB := Aside0.mk hb
  clear hbx hC hb
  have hmk := fun (W : World) => run_make (P := Tryd.prog) (w := W) 41 5 _ (.int .u8 0) Tryd.underlying41 hi0 hz0 .i64 .i64 (n : Int) (n : Int) (by omega) (by omega) (by rw [hb0]; omega) (by omega)
  rw [hs0] at hmk
  simp only [Int.toNat_natCast, Nat.mul_one] at hmk
  have hgW := blk_lt HBX.out
  have HKC : ∀ (i j : Nat) (u v : Value) (A : Option Addr) (l : List Int), Kd.C kbP w0 A n l → Kd.C kbP ((W.setCell ⟨g, i, none⟩ u).setCell ⟨g, j, none⟩ v) A n l := fun i j u v A l h => by
    obtain rfl : l.length = n := h.1
    exact Ev.C_keep_ h (fun k hk => ((HB.out.setCell (p := ⟨g, i, none⟩) hg u).setCell (p := ⟨g, j, none⟩) hg v).block k hk)
  have HBLK : ∀ (v : Value) (b : Bool), ((W.setCell ⟨g, 1, none⟩ (.bool b)).setCell ⟨g, 0, none⟩ v).heap[g]? = some (.cells #[v, .bool b] 87 (0, 0)) := fun v b => blk_set (blk_set HBX.out 1 (.bool b)) 0 v
  have HKP : ∀ (i j : Nat) (u v : Value), Kpx g W ((W.setCell ⟨g, i, none⟩ u).setCell ⟨g, j, none⟩ v) := fun i j u v =>
    ⟨by simp, fun k _ hk => (Below.heap_setCell _ ⟨g, j, none⟩ v k hk).trans (Below.heap_setCell _ ⟨g, i, none⟩ u k hk)⟩
  have HBB : ∀ (i j : Nat) (u v : Value), Below w0.heap.size w0 ((W.setCell ⟨g, i, none⟩ u).setCell ⟨g, j, none⟩ v) := fun i j u v =>
    (HB.out.setCell (p := ⟨g, i, none⟩) hg u).setCell (p := ⟨g, j, none⟩) hg v
  have HFin : ∀ (W' : World), W' = (W.setCell ⟨g, 1, none⟩ (.bool true)).alloc (.cells (madeCells #[.int .u8 0] n) 5) → takeC bs cut n = true → ∃ A c, Ending.returned (.slice (some ⟨W.heap.size, 0, none⟩) n n) = .returned (.slice A n c) ∧ Kd.C kbP W' A n (takeV bs cut n) ∧ n ≤ c ∧ Rd g w0 W' (takeR bs cut n) (takeC bs cut n) ∧ Kpx g W W' ∧ Below w0.heap.size w0 W' := by
    rintro W' rfl hT
    have hV : takeV bs cut n = List.replicate n 0 := by unfold takeV; rw [hT]; rfl
    have hR : takeR bs cut n = bs := by unfold takeR; rw [hT]; rfl
    have hrow : Kd.C kbP ((W.setCell ⟨g, 1, none⟩ (.bool true)).alloc (.cells (madeCells #[.int .u8 0] n) 5)) (some ⟨W.heap.size, 0, none⟩) (List.replicate n (0 : Int)).length (List.replicate n 0) := by
      refine Ev.ints_row (cs := madeCells #[.int .u8 0] n) (t := 5) _ ?_ ?_ (by simp; omega)
      · have h1 := blk_new (W.setCell ⟨g, 1, none⟩ (.bool true)) (.cells (madeCells #[.int .u8 0] n) 5 (0, 0))
        rwa [World.size_setCell] at h1
      · rw [List.length_replicate, List.take_of_length_le (by simp [madeCells])]
        apply List.ext_getElem
        · simp [madeCells]
        · intro i h1 h2
          simp [madeCells, Nat.mod_one]
    refine ⟨_, _, rfl, ?_, Nat.le_refl _, ?_, ?_, ?_⟩
    · rw [hV]; simpa using hrow
    · rw [hR, hT]
      exact ⟨A, c, blk_alloc (blk_set HBX.out 1 (.bool true)) _, HCC.out, hc⟩
    · exact ⟨by simp, fun k hk hkg => ((below_alloc (Below.refl (W.setCell ⟨g, 1, none⟩ (.bool true)).heap.size (W.setCell ⟨g, 1, none⟩ (.bool true))) _).block k (by simpa using hk)).trans (Below.heap_setCell _ ⟨g, 1, none⟩ _ k hkg)⟩
    · exact below_alloc (HB.out.setCell (p := ⟨g, 1, none⟩) hg _) _
  cases cut with
  | true =>
    go_enter Tryd.func77, Tryd.ntmps77
    go_wp2_with fail
    go_ret
    exact HFin _ rfl (by simp [takeC])
  | false =>
    by_cases hlt : (bs.length : Int) < (n : Int)
    · have d1 : decide ((bs.length : Int) < (n : Int)) = true := decide_eq_true hlt
      go_enter Tryd.func77, Tryd.ntmps77
      go_wp2_with fail
      go_ret
      exact HFin _ rfl (by simp [takeC, hlt])
    · have d1 : decide ((bs.length : Int) < (n : Int)) = false := decide_eq_false hlt
      have n1 : ((n : Int) ≤ (bs.length : Int)) = True := eq_true (by omega)
      have n2 : ((n : Int) ≤ (c : Int)) = True := eq_true (by omega)
      go_enter Tryd.func77, Tryd.ntmps77
      go_wp2_with fail
      all_goals go_ret
      all_goals have hT : takeC bs false n = false := by unfold takeC; rw [d1]; rfl
      all_goals have hV : takeV bs false n = bs.take n := by unfold takeV; rw [hT]; rfl
      all_goals have hR : takeR bs false n = bs.drop n := by unfold takeR; rw [hT]; rfl
      all_goals have hnl : n ≤ bs.length := by omega
      all_goals have hCt := Kd.C_take HCC.out hnl
      all_goals have hCd := Kd.C_drop HCC.out hnl hc
      all_goals have hlen : (bs.take n).length = n := by rw [List.length_take]; omega
      all_goals rw [hlen] at hCt
      · subst h
        rw [if_pos rfl] at hCd
        refine ⟨A, _, rfl, ?_, Nat.le_refl _, ?_, ?_, ?_⟩
        · rw [hV]; exact HKC _ _ _ _ _ _ hCt
        · rw [hT, hR]; exact ⟨A, 0, by rw [List.length_drop]; exact HBLK _ _, hCd, by rw [List.length_drop]; omega⟩
        · exact HKP _ _ _ _
        · exact HBB _ _ _ _
      · rw [if_neg h] at hCd
        have e : (fun x : Addr => x.add (n * kbP.sz)) = (fun x => x.add n) := by
          funext x
          show x.add (n * 1) = _
          rw [Nat.mul_one]
        rw [e] at hCd
        refine ⟨A, _, rfl, ?_, by omega, ?_, ?_, ?_⟩
        · rw [hV]; exact HKC _ _ _ _ _ _ hCt
        · rw [hT, hR]; exact ⟨A.map (fun x => x.add n), c - n, by rw [List.length_drop]; exact HBLK _ _, hCd, by rw [List.length_drop]; omega⟩
        · exact HKP _ _ _ _
        · exact HBB _ _ _ _
/-- A number out of a row, its highest place first. -/
def numV : List Int → Int → Int
  | [], a => a
  | x :: l, a => numV l (Go.bits .or .i64 (wrap64 (a * 256)) (wrap64 x))
theorem numV_step (l : List Int) (a x : Int) (h0 : 0 ≤ x) (h1 : x < (l.length : Int)) : numV (l.drop x.toNat) a = numV (l.drop (x + 1).toNat) (Go.bits .or .i64 (wrap64 (a * 256)) (wrap64 (rd l x))) := by
  have hn : x.toNat < l.length := by omega
  have e : rd l x = l[x.toNat] := by
    show l.getD x.toNat 0 = _
    rw [List.getD_eq_getElem?_getD, List.getElem?_eq_getElem hn, Option.getD_some]
  rw [e, show (x + 1).toNat = x.toNat + 1 by omega, List.drop_eq_getElem_cons hn]
  rfl
theorem kpx_refl (g : Nat) (W : World) : Kpx g W W := ⟨Nat.le_refl _, fun _ _ _ => rfl⟩
theorem kpx_trans {g : Nat} {X Y Z : World} (h : Kpx g X Y) (k : Kpx g Y Z) : Kpx g X Z := ⟨Nat.le_trans h.1 k.1, fun i hi hg => (k.2 i (Nat.lt_of_lt_of_le hi h.1) hg).trans (h.2 i hi hg)⟩
set_option maxHeartbeats 8000000 in
set_option maxRecDepth 100000 in
theorem number_calls (g n : Nat) (w0 W : World) (bs : List Int) (cut : Bool) (hn : n ≤ 1000000) (hg : w0.heap.size ≤ g) (hb : Below w0.heap.size w0 W) (h : Rd g w0 W bs cut) :
    Calls Tryd.prog 53 #[.pointer (some ⟨g, 0, none⟩), .int .i64 (n : Int)] W fun e W' => e = .returned (.int .i64 (numV (takeV bs cut n) 0)) ∧ Rd g w0 W' (takeR bs cut n) (takeC bs cut n) ∧ Kpx g W W' ∧ Below w0.heap.size w0 W' := by
  have hcl := take_calls g n w0 W bs cut hn hg hb h
  have hvl := takeV_len bs cut n
  go_enter Tryd.func53, Tryd.ntmps53
  go_wp2_with fail
  refine hcl.mono ?_
  rintro e W1 ⟨A, c, rfl, hC, hc, hR, hK, hB⟩
  obtain ⟨l, hl⟩ : ∃ l, takeV bs cut n = l := ⟨_, rfl⟩
  rw [hl] at hC hvl
  subst hvl
  have HC := Aside0.mk hC
  have HR := Aside0.mk hR
  have HK := Aside0.mk hK
  have HB := Aside0.mk hB
  clear hC hR hK hB hcl h hb
  go_wp2_with fail
  go_loopw [5, 12] (fun v5 v12 wr => ∃ a x : Int, 0 ≤ x ∧ x ≤ (l.length : Int) ∧ v5 = .int .i64 a ∧ v12 = .int .i64 x ∧ Aside0 (numV (l.drop x.toNat) a = numV l 0) ∧ W1 = wr) (fun v5 v12 wr => l.length - (intOf v12).toNat)
  case atStart => exact ⟨0, 0, by omega, by omega, rfl, rfl, ⟨by simp⟩, rfl⟩
  case round =>
    obtain ⟨a, x, hx0, hx1, rfl, rfl, HI, rfl⟩ := hrel
    by_cases hlt : x < (l.length : Int)
    · have hst := numV_step l a x hx0 hlt
      rw [HI.out] at hst
      obtain ⟨ad, e, q0⟩ := Kd.at_int HC.out x hx0 hlt
      subst e
      have hx2 : wrap64 (x + 1) = x + 1 := by unfold wrap64; omega
      have hx3 := eq_true hx0
      have hx4 := eq_true hlt
      have hdec : decide (x < (l.length : Int)) = true := decide_eq_true hlt
      generalize rd l x = y at q0 hst
      have HST := Aside0.mk hst
      clear hst
      go_wp2_with fail
      go_roundw
      case rel => exact ⟨_, x + 1, by omega, by omega, rfl, by first | rfl | rw [hx2], ⟨HST.out.symm⟩, trivial⟩
      case measure => simp [intOf]; omega
    · have hen := HI.out
      rw [List.drop_eq_nil_of_le (by omega), numV] at hen
      have hdec : decide (x < (l.length : Int)) = false := decide_eq_false hlt
      have hdec2 := eq_false hlt
      go_wp2_with fail
      go_ret
      exact ⟨by first | rfl | (show Ending.returned (.int .i64 (numV l 0)) = _; rw [hl]), HR.out, HK.out, HB.out⟩
set_option maxHeartbeats 1600000 in
set_option maxRecDepth 100000 in
/-- Bytes that are none end too early. -/
theorem parse_none (A : Option Addr) (c : Nat) (w : World) (hC : Kd.C kbP w A ([] : List Int).length []) (hc : ([] : List Int).length ≤ c) :
    Calls Tryd.prog 20 #[.slice A 0 c] w fun e W' => e = .returned (.tuple #[.agg #[.int .i64 0, .string ⟨#[]⟩, .string ⟨#[]⟩, .int .i64 0, .int .i64 0, .string ⟨#[]⟩, .int .i64 0, .int .i64 0, .int .i64 0, .int .i64 0, .int .i64 0, .string ⟨#[]⟩, .string ⟨#[]⟩, .slice none 0 0, .int .i64 0], .int .i64 10]) ∧ Below w.heap.size w W' := by
  have hnum := fun (W : World) hb hR => number_calls (w.heap.size + 1) 1 w W [] false (by decide) (by omega) hb hR
  have hsh := fun (W : World) => event_shape.calls 20 0 false false false false false false false W rfl
  go_enter Tryd.func20, Tryd.ntmps20
  go_wp2_with fail
  have hE0 : ((w.alloc (.cells #[.int .i64 0, .string ⟨#[]⟩, .string ⟨#[]⟩, .int .i64 0, .int .i64 0, .string ⟨#[]⟩, .int .i64 0, .int .i64 0, .int .i64 0, .int .i64 0, .int .i64 0, .string ⟨#[]⟩, .string ⟨#[]⟩, .slice none 0 0, .int .i64 0] 28)).alloc (.cells #[.slice A 0 c, .bool false] 87)).heap[w.heap.size]? = some (.cells #[.int .i64 0, .string ⟨#[]⟩, .string ⟨#[]⟩, .int .i64 0, .int .i64 0, .string ⟨#[]⟩, .int .i64 0, .int .i64 0, .int .i64 0, .int .i64 0, .int .i64 0, .string ⟨#[]⟩, .string ⟨#[]⟩, .slice none 0 0, .int .i64 0] 28 (0, 0)) := blk_alloc (blk_new _ _) _
  have hG0 : ((w.alloc (.cells #[.int .i64 0, .string ⟨#[]⟩, .string ⟨#[]⟩, .int .i64 0, .int .i64 0, .string ⟨#[]⟩, .int .i64 0, .int .i64 0, .int .i64 0, .int .i64 0, .int .i64 0, .string ⟨#[]⟩, .string ⟨#[]⟩, .slice none 0 0, .int .i64 0] 28)).alloc (.cells #[.slice A 0 c, .bool false] 87)).heap[w.heap.size + 1]? = some (.cells #[.slice A 0 c, .bool false] 87 (0, 0)) := by
    have h1 := blk_new (w.alloc (.cells #[.int .i64 0, .string ⟨#[]⟩, .string ⟨#[]⟩, .int .i64 0, .int .i64 0, .string ⟨#[]⟩, .int .i64 0, .int .i64 0, .int .i64 0, .int .i64 0, .int .i64 0, .string ⟨#[]⟩, .string ⟨#[]⟩, .slice none 0 0, .int .i64 0] 28)) (.cells #[.slice A 0 c, .bool false] 87 (0, 0))
    rwa [World.size_alloc] at h1
  refine (hnum _ (below_alloc (below_alloc (Below.refl _ _) _) _) ⟨A, c, hG0, hC, hc⟩).mono ?_
  rintro e W1 ⟨rfl, ⟨A1, c1, hbx, hC1, hc1⟩, hK1, hB1⟩
  have hE1 := (hK1.2 w.heap.size (by simp; omega) (by omega)).trans hE0
  have hv : numV (takeV [] false 1) 0 = 0 := by decide +kernel
  have hr : takeR [] false 1 = [] := by decide
  have hk : takeC [] false 1 = true := by decide
  rw [hk, hr] at hbx
  rw [hv]
  have HE1 := Aside0.mk hE1
  have HBX := Aside0.mk hbx
  have HB1 := Aside0.mk hB1
  clear hE1 hbx hB1 hK1 hC1 hc1 hE0 hG0 hnum hv hr hk
  go_wp2_with fail
  refine (hsh _).mono ?_
  rintro e W2 ⟨rfl, hb2⟩
  have HX2 := Aside0.mk (blk_below (blk_alloc HBX.out _) hb2)
  have m0 : ∀ o : Obj, (W2.alloc o).cell? ⟨w.heap.size + 1, 0, none⟩ = some (.slice A1 0 c1) := fun o => (blk_cell (blk_alloc HX2.out o) 0).trans rfl
  have m1 : ∀ o : Obj, (W2.alloc o).cell? ⟨w.heap.size + 1, 1, none⟩ = some (.bool true) := fun o => (blk_cell (blk_alloc HX2.out o) 1).trans rfl
  have HE2 := Aside0.mk (blk_below (blk_alloc HE1.out _) hb2)
  have HB2 := Aside0.mk (below_step (below_alloc HB1.out _) hb2)
  clear hb2
  have e0 : ∀ o : Obj, (W2.alloc o).cell? ⟨w.heap.size, 0, none⟩ = some (.int .i64 0) := fun o => (blk_cell (blk_alloc HE2.out o) 0).trans rfl
  have fe0 : ∀ o : Obj, (W2.alloc o).frozen? ⟨w.heap.size, 0, none⟩ = false := fun o => blk_frozen (blk_alloc HE2.out o) 0
  have e1 : ∀ o : Obj, (W2.alloc o).cell? ⟨w.heap.size, 1, none⟩ = some (.string ⟨#[]⟩) := fun o => (blk_cell (blk_alloc HE2.out o) 1).trans rfl
  have fe1 : ∀ o : Obj, (W2.alloc o).frozen? ⟨w.heap.size, 1, none⟩ = false := fun o => blk_frozen (blk_alloc HE2.out o) 1
  have e2 : ∀ o : Obj, (W2.alloc o).cell? ⟨w.heap.size, 2, none⟩ = some (.string ⟨#[]⟩) := fun o => (blk_cell (blk_alloc HE2.out o) 2).trans rfl
  have fe2 : ∀ o : Obj, (W2.alloc o).frozen? ⟨w.heap.size, 2, none⟩ = false := fun o => blk_frozen (blk_alloc HE2.out o) 2
  have e3 : ∀ o : Obj, (W2.alloc o).cell? ⟨w.heap.size, 3, none⟩ = some (.int .i64 0) := fun o => (blk_cell (blk_alloc HE2.out o) 3).trans rfl
  have fe3 : ∀ o : Obj, (W2.alloc o).frozen? ⟨w.heap.size, 3, none⟩ = false := fun o => blk_frozen (blk_alloc HE2.out o) 3
  have e4 : ∀ o : Obj, (W2.alloc o).cell? ⟨w.heap.size, 4, none⟩ = some (.int .i64 0) := fun o => (blk_cell (blk_alloc HE2.out o) 4).trans rfl
  have fe4 : ∀ o : Obj, (W2.alloc o).frozen? ⟨w.heap.size, 4, none⟩ = false := fun o => blk_frozen (blk_alloc HE2.out o) 4
  have e5 : ∀ o : Obj, (W2.alloc o).cell? ⟨w.heap.size, 5, none⟩ = some (.string ⟨#[]⟩) := fun o => (blk_cell (blk_alloc HE2.out o) 5).trans rfl
  have fe5 : ∀ o : Obj, (W2.alloc o).frozen? ⟨w.heap.size, 5, none⟩ = false := fun o => blk_frozen (blk_alloc HE2.out o) 5
  have e6 : ∀ o : Obj, (W2.alloc o).cell? ⟨w.heap.size, 6, none⟩ = some (.int .i64 0) := fun o => (blk_cell (blk_alloc HE2.out o) 6).trans rfl
  have fe6 : ∀ o : Obj, (W2.alloc o).frozen? ⟨w.heap.size, 6, none⟩ = false := fun o => blk_frozen (blk_alloc HE2.out o) 6
  have e7 : ∀ o : Obj, (W2.alloc o).cell? ⟨w.heap.size, 7, none⟩ = some (.int .i64 0) := fun o => (blk_cell (blk_alloc HE2.out o) 7).trans rfl
  have fe7 : ∀ o : Obj, (W2.alloc o).frozen? ⟨w.heap.size, 7, none⟩ = false := fun o => blk_frozen (blk_alloc HE2.out o) 7
  have e8 : ∀ o : Obj, (W2.alloc o).cell? ⟨w.heap.size, 8, none⟩ = some (.int .i64 0) := fun o => (blk_cell (blk_alloc HE2.out o) 8).trans rfl
  have fe8 : ∀ o : Obj, (W2.alloc o).frozen? ⟨w.heap.size, 8, none⟩ = false := fun o => blk_frozen (blk_alloc HE2.out o) 8
  have e9 : ∀ o : Obj, (W2.alloc o).cell? ⟨w.heap.size, 9, none⟩ = some (.int .i64 0) := fun o => (blk_cell (blk_alloc HE2.out o) 9).trans rfl
  have fe9 : ∀ o : Obj, (W2.alloc o).frozen? ⟨w.heap.size, 9, none⟩ = false := fun o => blk_frozen (blk_alloc HE2.out o) 9
  have e10 : ∀ o : Obj, (W2.alloc o).cell? ⟨w.heap.size, 10, none⟩ = some (.int .i64 0) := fun o => (blk_cell (blk_alloc HE2.out o) 10).trans rfl
  have fe10 : ∀ o : Obj, (W2.alloc o).frozen? ⟨w.heap.size, 10, none⟩ = false := fun o => blk_frozen (blk_alloc HE2.out o) 10
  have e11 : ∀ o : Obj, (W2.alloc o).cell? ⟨w.heap.size, 11, none⟩ = some (.string ⟨#[]⟩) := fun o => (blk_cell (blk_alloc HE2.out o) 11).trans rfl
  have fe11 : ∀ o : Obj, (W2.alloc o).frozen? ⟨w.heap.size, 11, none⟩ = false := fun o => blk_frozen (blk_alloc HE2.out o) 11
  have e12 : ∀ o : Obj, (W2.alloc o).cell? ⟨w.heap.size, 12, none⟩ = some (.string ⟨#[]⟩) := fun o => (blk_cell (blk_alloc HE2.out o) 12).trans rfl
  have fe12 : ∀ o : Obj, (W2.alloc o).frozen? ⟨w.heap.size, 12, none⟩ = false := fun o => blk_frozen (blk_alloc HE2.out o) 12
  have e13 : ∀ o : Obj, (W2.alloc o).cell? ⟨w.heap.size, 13, none⟩ = some (.slice none 0 0) := fun o => (blk_cell (blk_alloc HE2.out o) 13).trans rfl
  have fe13 : ∀ o : Obj, (W2.alloc o).frozen? ⟨w.heap.size, 13, none⟩ = false := fun o => blk_frozen (blk_alloc HE2.out o) 13
  have e14 : ∀ o : Obj, (W2.alloc o).cell? ⟨w.heap.size, 14, none⟩ = some (.int .i64 0) := fun o => (blk_cell (blk_alloc HE2.out o) 14).trans rfl
  have fe14 : ∀ o : Obj, (W2.alloc o).frozen? ⟨w.heap.size, 14, none⟩ = false := fun o => blk_frozen (blk_alloc HE2.out o) 14
  go_wp2_with fail
  refine bodyPost_ret (results_ct rfl _ _ w.heap.size 28 #[.int .i64 0, .string ⟨#[]⟩, .string ⟨#[]⟩, .int .i64 0, .int .i64 0, .string ⟨#[]⟩, .int .i64 0, .int .i64 0, .int .i64 0, .int .i64 0, .int .i64 0, .string ⟨#[]⟩, .string ⟨#[]⟩, .slice none 0 0, .int .i64 0] (0, 0) _ rfl (by refine blk_put (cs := #[.int .i64 0, .string ⟨#[]⟩, .string ⟨#[]⟩, .int .i64 0, .int .i64 0, .string ⟨#[]⟩, .int .i64 0, .int .i64 0, .int .i64 0, .int .i64 0, .int .i64 0, .string ⟨#[]⟩, .string ⟨#[]⟩, .slice none 0 0, .int .i64 0]) ?_ 14 _ rfl; refine blk_put (cs := #[.int .i64 0, .string ⟨#[]⟩, .string ⟨#[]⟩, .int .i64 0, .int .i64 0, .string ⟨#[]⟩, .int .i64 0, .int .i64 0, .int .i64 0, .int .i64 0, .int .i64 0, .string ⟨#[]⟩, .string ⟨#[]⟩, .slice none 0 0, .int .i64 0]) ?_ 13 _ rfl; refine blk_put (cs := #[.int .i64 0, .string ⟨#[]⟩, .string ⟨#[]⟩, .int .i64 0, .int .i64 0, .string ⟨#[]⟩, .int .i64 0, .int .i64 0, .int .i64 0, .int .i64 0, .int .i64 0, .string ⟨#[]⟩, .string ⟨#[]⟩, .slice none 0 0, .int .i64 0]) ?_ 12 _ rfl; refine blk_put (cs := #[.int .i64 0, .string ⟨#[]⟩, .string ⟨#[]⟩, .int .i64 0, .int .i64 0, .string ⟨#[]⟩, .int .i64 0, .int .i64 0, .int .i64 0, .int .i64 0, .int .i64 0, .string ⟨#[]⟩, .string ⟨#[]⟩, .slice none 0 0, .int .i64 0]) ?_ 11 _ rfl; refine blk_put (cs := #[.int .i64 0, .string ⟨#[]⟩, .string ⟨#[]⟩, .int .i64 0, .int .i64 0, .string ⟨#[]⟩, .int .i64 0, .int .i64 0, .int .i64 0, .int .i64 0, .int .i64 0, .string ⟨#[]⟩, .string ⟨#[]⟩, .slice none 0 0, .int .i64 0]) ?_ 10 _ rfl; refine blk_put (cs := #[.int .i64 0, .string ⟨#[]⟩, .string ⟨#[]⟩, .int .i64 0, .int .i64 0, .string ⟨#[]⟩, .int .i64 0, .int .i64 0, .int .i64 0, .int .i64 0, .int .i64 0, .string ⟨#[]⟩, .string ⟨#[]⟩, .slice none 0 0, .int .i64 0]) ?_ 9 _ rfl; refine blk_put (cs := #[.int .i64 0, .string ⟨#[]⟩, .string ⟨#[]⟩, .int .i64 0, .int .i64 0, .string ⟨#[]⟩, .int .i64 0, .int .i64 0, .int .i64 0, .int .i64 0, .int .i64 0, .string ⟨#[]⟩, .string ⟨#[]⟩, .slice none 0 0, .int .i64 0]) ?_ 8 _ rfl; refine blk_put (cs := #[.int .i64 0, .string ⟨#[]⟩, .string ⟨#[]⟩, .int .i64 0, .int .i64 0, .string ⟨#[]⟩, .int .i64 0, .int .i64 0, .int .i64 0, .int .i64 0, .int .i64 0, .string ⟨#[]⟩, .string ⟨#[]⟩, .slice none 0 0, .int .i64 0]) ?_ 7 _ rfl; refine blk_put (cs := #[.int .i64 0, .string ⟨#[]⟩, .string ⟨#[]⟩, .int .i64 0, .int .i64 0, .string ⟨#[]⟩, .int .i64 0, .int .i64 0, .int .i64 0, .int .i64 0, .int .i64 0, .string ⟨#[]⟩, .string ⟨#[]⟩, .slice none 0 0, .int .i64 0]) ?_ 6 _ rfl; refine blk_put (cs := #[.int .i64 0, .string ⟨#[]⟩, .string ⟨#[]⟩, .int .i64 0, .int .i64 0, .string ⟨#[]⟩, .int .i64 0, .int .i64 0, .int .i64 0, .int .i64 0, .int .i64 0, .string ⟨#[]⟩, .string ⟨#[]⟩, .slice none 0 0, .int .i64 0]) ?_ 5 _ rfl; refine blk_put (cs := #[.int .i64 0, .string ⟨#[]⟩, .string ⟨#[]⟩, .int .i64 0, .int .i64 0, .string ⟨#[]⟩, .int .i64 0, .int .i64 0, .int .i64 0, .int .i64 0, .int .i64 0, .string ⟨#[]⟩, .string ⟨#[]⟩, .slice none 0 0, .int .i64 0]) ?_ 4 _ rfl; refine blk_put (cs := #[.int .i64 0, .string ⟨#[]⟩, .string ⟨#[]⟩, .int .i64 0, .int .i64 0, .string ⟨#[]⟩, .int .i64 0, .int .i64 0, .int .i64 0, .int .i64 0, .int .i64 0, .string ⟨#[]⟩, .string ⟨#[]⟩, .slice none 0 0, .int .i64 0]) ?_ 3 _ rfl; refine blk_put (cs := #[.int .i64 0, .string ⟨#[]⟩, .string ⟨#[]⟩, .int .i64 0, .int .i64 0, .string ⟨#[]⟩, .int .i64 0, .int .i64 0, .int .i64 0, .int .i64 0, .int .i64 0, .string ⟨#[]⟩, .string ⟨#[]⟩, .slice none 0 0, .int .i64 0]) ?_ 2 _ rfl; refine blk_put (cs := #[.int .i64 0, .string ⟨#[]⟩, .string ⟨#[]⟩, .int .i64 0, .int .i64 0, .string ⟨#[]⟩, .int .i64 0, .int .i64 0, .int .i64 0, .int .i64 0, .int .i64 0, .string ⟨#[]⟩, .string ⟨#[]⟩, .slice none 0 0, .int .i64 0]) ?_ 1 _ rfl; refine blk_put (cs := #[.int .i64 0, .string ⟨#[]⟩, .string ⟨#[]⟩, .int .i64 0, .int .i64 0, .string ⟨#[]⟩, .int .i64 0, .int .i64 0, .int .i64 0, .int .i64 0, .int .i64 0, .string ⟨#[]⟩, .string ⟨#[]⟩, .slice none 0 0, .int .i64 0]) ?_ 0 _ rfl; exact blk_alloc HE2.out _) Tryd.underlying28 rfl (by kernel_rfl)) rfl ?_
  exact ⟨rfl, by refine Below.setCell (p := ⟨w.heap.size, 14, none⟩) ?_ (Nat.le_refl _) _; refine Below.setCell (p := ⟨w.heap.size, 13, none⟩) ?_ (Nat.le_refl _) _; refine Below.setCell (p := ⟨w.heap.size, 12, none⟩) ?_ (Nat.le_refl _) _; refine Below.setCell (p := ⟨w.heap.size, 11, none⟩) ?_ (Nat.le_refl _) _; refine Below.setCell (p := ⟨w.heap.size, 10, none⟩) ?_ (Nat.le_refl _) _; refine Below.setCell (p := ⟨w.heap.size, 9, none⟩) ?_ (Nat.le_refl _) _; refine Below.setCell (p := ⟨w.heap.size, 8, none⟩) ?_ (Nat.le_refl _) _; refine Below.setCell (p := ⟨w.heap.size, 7, none⟩) ?_ (Nat.le_refl _) _; refine Below.setCell (p := ⟨w.heap.size, 6, none⟩) ?_ (Nat.le_refl _) _; refine Below.setCell (p := ⟨w.heap.size, 5, none⟩) ?_ (Nat.le_refl _) _; refine Below.setCell (p := ⟨w.heap.size, 4, none⟩) ?_ (Nat.le_refl _) _; refine Below.setCell (p := ⟨w.heap.size, 3, none⟩) ?_ (Nat.le_refl _) _; refine Below.setCell (p := ⟨w.heap.size, 2, none⟩) ?_ (Nat.le_refl _) _; refine Below.setCell (p := ⟨w.heap.size, 1, none⟩) ?_ (Nat.le_refl _) _; refine Below.setCell (p := ⟨w.heap.size, 0, none⟩) ?_ (Nat.le_refl _) _; exact below_alloc HB2.out _⟩
set_option maxHeartbeats 1600000 in
set_option maxRecDepth 100000 in
/-- The byte 9 alone is a tick. -/
theorem parse_nine (A : Option Addr) (c : Nat) (w : World) (hLd_ : Aside0 (LaidW w)) (hC : Kd.C kbP w A ([9] : List Int).length [9]) (hc : ([9] : List Int).length ≤ c) :
    Calls Tryd.prog 20 #[.slice A 1 c] w fun e W' => e = .returned (.tuple #[.agg #[.int .i64 9, .string ⟨#[]⟩, .string ⟨#[]⟩, .int .i64 0, .int .i64 0, .string ⟨#[]⟩, .int .i64 0, .int .i64 0, .int .i64 0, .int .i64 0, .int .i64 0, .string ⟨#[]⟩, .string ⟨#[]⟩, .slice none 0 0, .int .i64 0], .int .i64 0]) ∧ Below w.heap.size w W' := by
  have hnum := fun (W : World) hb hR => number_calls (w.heap.size + 1) 1 w W [9] false (by decide) (by omega) hb hR
  have hsh := fun (W : World) => event_shape.calls 20 9 false false false false false false true W rfl
  have hck := fun (W : World) (hL : Aside0 (LaidW W)) => event_Check.calls 20 9 ⟨#[]⟩ ⟨#[]⟩ 0 0 ⟨#[]⟩ 0 0 0 0 0 ⟨#[]⟩ ⟨#[]⟩ none 0 [] 0 0 W hL (Kd.C_nil _ _) (Nat.le_refl _) (by decide +kernel)
  go_enter Tryd.func20, Tryd.ntmps20
  go_wp2_with fail
  have hE0 : ((w.alloc (.cells #[.int .i64 0, .string ⟨#[]⟩, .string ⟨#[]⟩, .int .i64 0, .int .i64 0, .string ⟨#[]⟩, .int .i64 0, .int .i64 0, .int .i64 0, .int .i64 0, .int .i64 0, .string ⟨#[]⟩, .string ⟨#[]⟩, .slice none 0 0, .int .i64 0] 28)).alloc (.cells #[.slice A 1 c, .bool false] 87)).heap[w.heap.size]? = some (.cells #[.int .i64 0, .string ⟨#[]⟩, .string ⟨#[]⟩, .int .i64 0, .int .i64 0, .string ⟨#[]⟩, .int .i64 0, .int .i64 0, .int .i64 0, .int .i64 0, .int .i64 0, .string ⟨#[]⟩, .string ⟨#[]⟩, .slice none 0 0, .int .i64 0] 28 (0, 0)) := blk_alloc (blk_new _ _) _
  have hG0 : ((w.alloc (.cells #[.int .i64 0, .string ⟨#[]⟩, .string ⟨#[]⟩, .int .i64 0, .int .i64 0, .string ⟨#[]⟩, .int .i64 0, .int .i64 0, .int .i64 0, .int .i64 0, .int .i64 0, .string ⟨#[]⟩, .string ⟨#[]⟩, .slice none 0 0, .int .i64 0] 28)).alloc (.cells #[.slice A 1 c, .bool false] 87)).heap[w.heap.size + 1]? = some (.cells #[.slice A 1 c, .bool false] 87 (0, 0)) := by
    have h1 := blk_new (w.alloc (.cells #[.int .i64 0, .string ⟨#[]⟩, .string ⟨#[]⟩, .int .i64 0, .int .i64 0, .string ⟨#[]⟩, .int .i64 0, .int .i64 0, .int .i64 0, .int .i64 0, .int .i64 0, .string ⟨#[]⟩, .string ⟨#[]⟩, .slice none 0 0, .int .i64 0] 28)) (.cells #[.slice A 1 c, .bool false] 87 (0, 0))
    rwa [World.size_alloc] at h1
  refine (hnum _ (below_alloc (below_alloc (Below.refl _ _) _) _) ⟨A, c, hG0, hC, hc⟩).mono ?_
  rintro e W1 ⟨rfl, ⟨A1, c1, hbx, hC1, hc1⟩, hK1, hB1⟩
  have hE1 := (hK1.2 w.heap.size (by simp; omega) (by omega)).trans hE0
  have hv : numV (takeV [9] false 1) 0 = 9 := by decide +kernel
  have hr : takeR [9] false 1 = [] := by decide
  have hk : takeC [9] false 1 = false := by decide
  rw [hk, hr] at hbx
  rw [hv]
  have HE1 := Aside0.mk hE1
  have HBX := Aside0.mk hbx
  have HB1 := Aside0.mk hB1
  clear hE1 hbx hB1 hK1 hC1 hc1 hE0 hG0 hnum hv hr hk
  go_wp2_with fail
  refine (hsh _).mono ?_
  rintro e W2 ⟨rfl, hb2⟩
  have HX2 := Aside0.mk (blk_below (blk_alloc HBX.out _) hb2)
  have m0 : ∀ o : Obj, (W2.alloc o).cell? ⟨w.heap.size + 1, 0, none⟩ = some (.slice A1 0 c1) := fun o => (blk_cell (blk_alloc HX2.out o) 0).trans rfl
  have m1 : ∀ o : Obj, (W2.alloc o).cell? ⟨w.heap.size + 1, 1, none⟩ = some (.bool false) := fun o => (blk_cell (blk_alloc HX2.out o) 1).trans rfl
  have HE2 := Aside0.mk (blk_below (blk_alloc HE1.out _) hb2)
  have hV2 : W2.heap[W1.heap.size]? = some (.cells #[.int .i64 9, .string ⟨#[]⟩, .string ⟨#[]⟩, .int .i64 0, .int .i64 0, .string ⟨#[]⟩, .int .i64 0, .int .i64 0, .int .i64 0, .int .i64 0, .int .i64 0, .string ⟨#[]⟩, .string ⟨#[]⟩, .slice none 0 0, .int .i64 0] 28 (0, 0)) := blk_below (blk_new _ _) hb2
  have HV2 := Aside0.mk hV2
  have HB2 := Aside0.mk (below_step (below_alloc HB1.out _) hb2)
  clear hb2 hV2
  have v0 : ∀ o : Obj, (W2.alloc o).cell? ⟨W1.heap.size, 0, none⟩ = some (.int .i64 9) := fun o => (blk_cell (blk_alloc HV2.out o) 0).trans rfl
  have v1 : ∀ o : Obj, (W2.alloc o).cell? ⟨W1.heap.size, 1, none⟩ = some (.string ⟨#[]⟩) := fun o => (blk_cell (blk_alloc HV2.out o) 1).trans rfl
  have v2 : ∀ o : Obj, (W2.alloc o).cell? ⟨W1.heap.size, 2, none⟩ = some (.string ⟨#[]⟩) := fun o => (blk_cell (blk_alloc HV2.out o) 2).trans rfl
  have v3 : ∀ o : Obj, (W2.alloc o).cell? ⟨W1.heap.size, 3, none⟩ = some (.int .i64 0) := fun o => (blk_cell (blk_alloc HV2.out o) 3).trans rfl
  have v4 : ∀ o : Obj, (W2.alloc o).cell? ⟨W1.heap.size, 4, none⟩ = some (.int .i64 0) := fun o => (blk_cell (blk_alloc HV2.out o) 4).trans rfl
  have v5 : ∀ o : Obj, (W2.alloc o).cell? ⟨W1.heap.size, 5, none⟩ = some (.string ⟨#[]⟩) := fun o => (blk_cell (blk_alloc HV2.out o) 5).trans rfl
  have v6 : ∀ o : Obj, (W2.alloc o).cell? ⟨W1.heap.size, 6, none⟩ = some (.int .i64 0) := fun o => (blk_cell (blk_alloc HV2.out o) 6).trans rfl
  have v7 : ∀ o : Obj, (W2.alloc o).cell? ⟨W1.heap.size, 7, none⟩ = some (.int .i64 0) := fun o => (blk_cell (blk_alloc HV2.out o) 7).trans rfl
  have v8 : ∀ o : Obj, (W2.alloc o).cell? ⟨W1.heap.size, 8, none⟩ = some (.int .i64 0) := fun o => (blk_cell (blk_alloc HV2.out o) 8).trans rfl
  have v9 : ∀ o : Obj, (W2.alloc o).cell? ⟨W1.heap.size, 9, none⟩ = some (.int .i64 0) := fun o => (blk_cell (blk_alloc HV2.out o) 9).trans rfl
  have v10 : ∀ o : Obj, (W2.alloc o).cell? ⟨W1.heap.size, 10, none⟩ = some (.int .i64 0) := fun o => (blk_cell (blk_alloc HV2.out o) 10).trans rfl
  have v11 : ∀ o : Obj, (W2.alloc o).cell? ⟨W1.heap.size, 11, none⟩ = some (.string ⟨#[]⟩) := fun o => (blk_cell (blk_alloc HV2.out o) 11).trans rfl
  have v12 : ∀ o : Obj, (W2.alloc o).cell? ⟨W1.heap.size, 12, none⟩ = some (.string ⟨#[]⟩) := fun o => (blk_cell (blk_alloc HV2.out o) 12).trans rfl
  have v13 : ∀ o : Obj, (W2.alloc o).cell? ⟨W1.heap.size, 13, none⟩ = some (.slice none 0 0) := fun o => (blk_cell (blk_alloc HV2.out o) 13).trans rfl
  have v14 : ∀ o : Obj, (W2.alloc o).cell? ⟨W1.heap.size, 14, none⟩ = some (.int .i64 0) := fun o => (blk_cell (blk_alloc HV2.out o) 14).trans rfl
  go_wp2_with fail
  refine (hck _ ⟨hLd_.out.below (below_alloc HB2.out _)⟩).mono ?_
  rintro e W3 ⟨rfl, hb3⟩
  have HE3 := Aside0.mk (blk_below (blk_alloc HE2.out _) hb3)
  have HV3 := Aside0.mk (blk_below (blk_alloc HV2.out _) hb3)
  have HB3 := Aside0.mk (below_step (below_alloc HB2.out _) hb3)
  clear hb3 m0 m1 v0 v1 v2 v3 v4 v5 v6 v7 v8 v9 v10 v11 v12 v13 v14
  have e0 : W3.cell? ⟨w.heap.size, 0, none⟩ = some (.int .i64 0) := (blk_cell HE3.out 0).trans rfl
  have fe0 := blk_frozen HE3.out 0
  have e1 : W3.cell? ⟨w.heap.size, 1, none⟩ = some (.string ⟨#[]⟩) := (blk_cell HE3.out 1).trans rfl
  have fe1 := blk_frozen HE3.out 1
  have e2 : W3.cell? ⟨w.heap.size, 2, none⟩ = some (.string ⟨#[]⟩) := (blk_cell HE3.out 2).trans rfl
  have fe2 := blk_frozen HE3.out 2
  have e3 : W3.cell? ⟨w.heap.size, 3, none⟩ = some (.int .i64 0) := (blk_cell HE3.out 3).trans rfl
  have fe3 := blk_frozen HE3.out 3
  have e4 : W3.cell? ⟨w.heap.size, 4, none⟩ = some (.int .i64 0) := (blk_cell HE3.out 4).trans rfl
  have fe4 := blk_frozen HE3.out 4
  have e5 : W3.cell? ⟨w.heap.size, 5, none⟩ = some (.string ⟨#[]⟩) := (blk_cell HE3.out 5).trans rfl
  have fe5 := blk_frozen HE3.out 5
  have e6 : W3.cell? ⟨w.heap.size, 6, none⟩ = some (.int .i64 0) := (blk_cell HE3.out 6).trans rfl
  have fe6 := blk_frozen HE3.out 6
  have e7 : W3.cell? ⟨w.heap.size, 7, none⟩ = some (.int .i64 0) := (blk_cell HE3.out 7).trans rfl
  have fe7 := blk_frozen HE3.out 7
  have e8 : W3.cell? ⟨w.heap.size, 8, none⟩ = some (.int .i64 0) := (blk_cell HE3.out 8).trans rfl
  have fe8 := blk_frozen HE3.out 8
  have e9 : W3.cell? ⟨w.heap.size, 9, none⟩ = some (.int .i64 0) := (blk_cell HE3.out 9).trans rfl
  have fe9 := blk_frozen HE3.out 9
  have e10 : W3.cell? ⟨w.heap.size, 10, none⟩ = some (.int .i64 0) := (blk_cell HE3.out 10).trans rfl
  have fe10 := blk_frozen HE3.out 10
  have e11 : W3.cell? ⟨w.heap.size, 11, none⟩ = some (.string ⟨#[]⟩) := (blk_cell HE3.out 11).trans rfl
  have fe11 := blk_frozen HE3.out 11
  have e12 : W3.cell? ⟨w.heap.size, 12, none⟩ = some (.string ⟨#[]⟩) := (blk_cell HE3.out 12).trans rfl
  have fe12 := blk_frozen HE3.out 12
  have e13 : W3.cell? ⟨w.heap.size, 13, none⟩ = some (.slice none 0 0) := (blk_cell HE3.out 13).trans rfl
  have fe13 := blk_frozen HE3.out 13
  have e14 : W3.cell? ⟨w.heap.size, 14, none⟩ = some (.int .i64 0) := (blk_cell HE3.out 14).trans rfl
  have fe14 := blk_frozen HE3.out 14
  have v0 : W3.cell? ⟨W1.heap.size, 0, none⟩ = some (.int .i64 9) := (blk_cell HV3.out 0).trans rfl
  have v1 : W3.cell? ⟨W1.heap.size, 1, none⟩ = some (.string ⟨#[]⟩) := (blk_cell HV3.out 1).trans rfl
  have v2 : W3.cell? ⟨W1.heap.size, 2, none⟩ = some (.string ⟨#[]⟩) := (blk_cell HV3.out 2).trans rfl
  have v3 : W3.cell? ⟨W1.heap.size, 3, none⟩ = some (.int .i64 0) := (blk_cell HV3.out 3).trans rfl
  have v4 : W3.cell? ⟨W1.heap.size, 4, none⟩ = some (.int .i64 0) := (blk_cell HV3.out 4).trans rfl
  have v5 : W3.cell? ⟨W1.heap.size, 5, none⟩ = some (.string ⟨#[]⟩) := (blk_cell HV3.out 5).trans rfl
  have v6 : W3.cell? ⟨W1.heap.size, 6, none⟩ = some (.int .i64 0) := (blk_cell HV3.out 6).trans rfl
  have v7 : W3.cell? ⟨W1.heap.size, 7, none⟩ = some (.int .i64 0) := (blk_cell HV3.out 7).trans rfl
  have v8 : W3.cell? ⟨W1.heap.size, 8, none⟩ = some (.int .i64 0) := (blk_cell HV3.out 8).trans rfl
  have v9 : W3.cell? ⟨W1.heap.size, 9, none⟩ = some (.int .i64 0) := (blk_cell HV3.out 9).trans rfl
  have v10 : W3.cell? ⟨W1.heap.size, 10, none⟩ = some (.int .i64 0) := (blk_cell HV3.out 10).trans rfl
  have v11 : W3.cell? ⟨W1.heap.size, 11, none⟩ = some (.string ⟨#[]⟩) := (blk_cell HV3.out 11).trans rfl
  have v12 : W3.cell? ⟨W1.heap.size, 12, none⟩ = some (.string ⟨#[]⟩) := (blk_cell HV3.out 12).trans rfl
  have v13 : W3.cell? ⟨W1.heap.size, 13, none⟩ = some (.slice none 0 0) := (blk_cell HV3.out 13).trans rfl
  have v14 : W3.cell? ⟨W1.heap.size, 14, none⟩ = some (.int .i64 0) := (blk_cell HV3.out 14).trans rfl
  go_wp2_with fail
  refine bodyPost_ret (results_ct rfl _ _ w.heap.size 28 #[.int .i64 9, .string ⟨#[]⟩, .string ⟨#[]⟩, .int .i64 0, .int .i64 0, .string ⟨#[]⟩, .int .i64 0, .int .i64 0, .int .i64 0, .int .i64 0, .int .i64 0, .string ⟨#[]⟩, .string ⟨#[]⟩, .slice none 0 0, .int .i64 0] (0, 0) _ rfl (by refine blk_put (cs := #[.int .i64 9, .string ⟨#[]⟩, .string ⟨#[]⟩, .int .i64 0, .int .i64 0, .string ⟨#[]⟩, .int .i64 0, .int .i64 0, .int .i64 0, .int .i64 0, .int .i64 0, .string ⟨#[]⟩, .string ⟨#[]⟩, .slice none 0 0, .int .i64 0]) ?_ 14 _ rfl; refine blk_put (cs := #[.int .i64 9, .string ⟨#[]⟩, .string ⟨#[]⟩, .int .i64 0, .int .i64 0, .string ⟨#[]⟩, .int .i64 0, .int .i64 0, .int .i64 0, .int .i64 0, .int .i64 0, .string ⟨#[]⟩, .string ⟨#[]⟩, .slice none 0 0, .int .i64 0]) ?_ 13 _ rfl; refine blk_put (cs := #[.int .i64 9, .string ⟨#[]⟩, .string ⟨#[]⟩, .int .i64 0, .int .i64 0, .string ⟨#[]⟩, .int .i64 0, .int .i64 0, .int .i64 0, .int .i64 0, .int .i64 0, .string ⟨#[]⟩, .string ⟨#[]⟩, .slice none 0 0, .int .i64 0]) ?_ 12 _ rfl; refine blk_put (cs := #[.int .i64 9, .string ⟨#[]⟩, .string ⟨#[]⟩, .int .i64 0, .int .i64 0, .string ⟨#[]⟩, .int .i64 0, .int .i64 0, .int .i64 0, .int .i64 0, .int .i64 0, .string ⟨#[]⟩, .string ⟨#[]⟩, .slice none 0 0, .int .i64 0]) ?_ 11 _ rfl; refine blk_put (cs := #[.int .i64 9, .string ⟨#[]⟩, .string ⟨#[]⟩, .int .i64 0, .int .i64 0, .string ⟨#[]⟩, .int .i64 0, .int .i64 0, .int .i64 0, .int .i64 0, .int .i64 0, .string ⟨#[]⟩, .string ⟨#[]⟩, .slice none 0 0, .int .i64 0]) ?_ 10 _ rfl; refine blk_put (cs := #[.int .i64 9, .string ⟨#[]⟩, .string ⟨#[]⟩, .int .i64 0, .int .i64 0, .string ⟨#[]⟩, .int .i64 0, .int .i64 0, .int .i64 0, .int .i64 0, .int .i64 0, .string ⟨#[]⟩, .string ⟨#[]⟩, .slice none 0 0, .int .i64 0]) ?_ 9 _ rfl; refine blk_put (cs := #[.int .i64 9, .string ⟨#[]⟩, .string ⟨#[]⟩, .int .i64 0, .int .i64 0, .string ⟨#[]⟩, .int .i64 0, .int .i64 0, .int .i64 0, .int .i64 0, .int .i64 0, .string ⟨#[]⟩, .string ⟨#[]⟩, .slice none 0 0, .int .i64 0]) ?_ 8 _ rfl; refine blk_put (cs := #[.int .i64 9, .string ⟨#[]⟩, .string ⟨#[]⟩, .int .i64 0, .int .i64 0, .string ⟨#[]⟩, .int .i64 0, .int .i64 0, .int .i64 0, .int .i64 0, .int .i64 0, .string ⟨#[]⟩, .string ⟨#[]⟩, .slice none 0 0, .int .i64 0]) ?_ 7 _ rfl; refine blk_put (cs := #[.int .i64 9, .string ⟨#[]⟩, .string ⟨#[]⟩, .int .i64 0, .int .i64 0, .string ⟨#[]⟩, .int .i64 0, .int .i64 0, .int .i64 0, .int .i64 0, .int .i64 0, .string ⟨#[]⟩, .string ⟨#[]⟩, .slice none 0 0, .int .i64 0]) ?_ 6 _ rfl; refine blk_put (cs := #[.int .i64 9, .string ⟨#[]⟩, .string ⟨#[]⟩, .int .i64 0, .int .i64 0, .string ⟨#[]⟩, .int .i64 0, .int .i64 0, .int .i64 0, .int .i64 0, .int .i64 0, .string ⟨#[]⟩, .string ⟨#[]⟩, .slice none 0 0, .int .i64 0]) ?_ 5 _ rfl; refine blk_put (cs := #[.int .i64 9, .string ⟨#[]⟩, .string ⟨#[]⟩, .int .i64 0, .int .i64 0, .string ⟨#[]⟩, .int .i64 0, .int .i64 0, .int .i64 0, .int .i64 0, .int .i64 0, .string ⟨#[]⟩, .string ⟨#[]⟩, .slice none 0 0, .int .i64 0]) ?_ 4 _ rfl; refine blk_put (cs := #[.int .i64 9, .string ⟨#[]⟩, .string ⟨#[]⟩, .int .i64 0, .int .i64 0, .string ⟨#[]⟩, .int .i64 0, .int .i64 0, .int .i64 0, .int .i64 0, .int .i64 0, .string ⟨#[]⟩, .string ⟨#[]⟩, .slice none 0 0, .int .i64 0]) ?_ 3 _ rfl; refine blk_put (cs := #[.int .i64 9, .string ⟨#[]⟩, .string ⟨#[]⟩, .int .i64 0, .int .i64 0, .string ⟨#[]⟩, .int .i64 0, .int .i64 0, .int .i64 0, .int .i64 0, .int .i64 0, .string ⟨#[]⟩, .string ⟨#[]⟩, .slice none 0 0, .int .i64 0]) ?_ 2 _ rfl; refine blk_put (cs := #[.int .i64 9, .string ⟨#[]⟩, .string ⟨#[]⟩, .int .i64 0, .int .i64 0, .string ⟨#[]⟩, .int .i64 0, .int .i64 0, .int .i64 0, .int .i64 0, .int .i64 0, .string ⟨#[]⟩, .string ⟨#[]⟩, .slice none 0 0, .int .i64 0]) ?_ 1 _ rfl; refine blk_put (cs := #[.int .i64 0, .string ⟨#[]⟩, .string ⟨#[]⟩, .int .i64 0, .int .i64 0, .string ⟨#[]⟩, .int .i64 0, .int .i64 0, .int .i64 0, .int .i64 0, .int .i64 0, .string ⟨#[]⟩, .string ⟨#[]⟩, .slice none 0 0, .int .i64 0]) ?_ 0 _ rfl; exact HE3.out) Tryd.underlying28 rfl (by kernel_rfl)) rfl ?_
  exact ⟨rfl, by refine Below.setCell (p := ⟨w.heap.size, 14, none⟩) ?_ (Nat.le_refl _) _; refine Below.setCell (p := ⟨w.heap.size, 13, none⟩) ?_ (Nat.le_refl _) _; refine Below.setCell (p := ⟨w.heap.size, 12, none⟩) ?_ (Nat.le_refl _) _; refine Below.setCell (p := ⟨w.heap.size, 11, none⟩) ?_ (Nat.le_refl _) _; refine Below.setCell (p := ⟨w.heap.size, 10, none⟩) ?_ (Nat.le_refl _) _; refine Below.setCell (p := ⟨w.heap.size, 9, none⟩) ?_ (Nat.le_refl _) _; refine Below.setCell (p := ⟨w.heap.size, 8, none⟩) ?_ (Nat.le_refl _) _; refine Below.setCell (p := ⟨w.heap.size, 7, none⟩) ?_ (Nat.le_refl _) _; refine Below.setCell (p := ⟨w.heap.size, 6, none⟩) ?_ (Nat.le_refl _) _; refine Below.setCell (p := ⟨w.heap.size, 5, none⟩) ?_ (Nat.le_refl _) _; refine Below.setCell (p := ⟨w.heap.size, 4, none⟩) ?_ (Nat.le_refl _) _; refine Below.setCell (p := ⟨w.heap.size, 3, none⟩) ?_ (Nat.le_refl _) _; refine Below.setCell (p := ⟨w.heap.size, 2, none⟩) ?_ (Nat.le_refl _) _; refine Below.setCell (p := ⟨w.heap.size, 1, none⟩) ?_ (Nat.le_refl _) _; refine Below.setCell (p := ⟨w.heap.size, 0, none⟩) ?_ (Nat.le_refl _) _; exact HB3.out⟩
def damperlaw3_known.f : Option Bool := some true
theorem damperlaw3_known.calls (r : Bool) (w : World) (hLd_ : Aside0 (LaidW w)) (h : damperlaw3_known.f = some r) :
    Calls Tryd.prog 12 #[] w fun e w' => e = .returned (.bool r) ∧ Below w.heap.size w w' := by
  obtain rfl := Option.some.inj h
  have hcut := fun (A : Option Addr) (c : Nat) (W : World) hC hc => event_Cut.calls A c [0, 0] [[]] W hC hc (by decide +kernel)
  go_enter Tryd.func12, Tryd.ntmps12
  go_wp2_with fail
  refine (parse_none none 0 w (Kd.C_nil _ _) (Nat.le_refl _)).mono ?_
  rintro e W1 ⟨rfl, hb1⟩
  have HB1 := Aside0.mk hb1
  clear hb1
  go_wp2_with fail
  refine (parse_nine (some ⟨W1.heap.size + 1, 0, none⟩) 1 _ ⟨hLd_.out.below (below_alloc (below_alloc HB1.out _) _)⟩ (Ev.ints_row [9] (cs := #[.int .u8 9]) (t := 5) (by
      have h1 := blk_new (W1.alloc (.cells #[.int .i64 0, .string ⟨#[]⟩, .string ⟨#[]⟩, .int .i64 0, .int .i64 0, .string ⟨#[]⟩, .int .i64 0, .int .i64 0, .int .i64 0, .int .i64 0, .int .i64 0, .string ⟨#[]⟩, .string ⟨#[]⟩, .slice none 0 0, .int .i64 0] 28)) (.cells #[.int .u8 9] 5 (0, 0))
      rwa [World.size_alloc] at h1) rfl (by decide)) (Nat.le_refl _)).mono ?_
  rintro e W2 ⟨rfl, hb2⟩
  have HB2 := Aside0.mk (below_step (below_alloc (below_alloc HB1.out _) _) hb2)
  clear hb2
  go_wp2_with fail
  refine (event_Cut.calls (some ⟨W2.heap.size + 1, 0, none⟩) 2 [0, 0] [[]] _ (Ev.ints_row [0, 0] (cs := #[.int .u8 0, .int .u8 0]) (t := 5) (by
      have h1 := blk_new (W2.alloc (.cells #[.int .i64 9, .string ⟨#[]⟩, .string ⟨#[]⟩, .int .i64 0, .int .i64 0, .string ⟨#[]⟩, .int .i64 0, .int .i64 0, .int .i64 0, .int .i64 0, .int .i64 0, .string ⟨#[]⟩, .string ⟨#[]⟩, .slice none 0 0, .int .i64 0] 28)) (.cells #[.int .u8 0, .int .u8 0] 5 (0, 0))
      rwa [World.size_alloc] at h1) rfl (by decide)) (Nat.le_refl _) (by decide +kernel)).mono ?_
  rintro e W3 ⟨v, rfl, hR, hb3⟩
  obtain ⟨A3, c3, rfl⟩ := Kd.R_slice (Kd.S_R hR)
  have HB3 := Aside0.mk (below_step (below_alloc (below_alloc HB2.out _) _) hb3)
  clear hb3 hR
  go_wp2_with fail
  go_ret
  exact ⟨rfl, HB3.out⟩

end Go.Proofs.YtalpoojepffldaaDoor.Ma
