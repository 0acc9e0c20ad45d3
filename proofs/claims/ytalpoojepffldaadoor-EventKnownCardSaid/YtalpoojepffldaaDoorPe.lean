-- Written by a program of this session (wip/tools/pack.py) out of its printed parts. Not trusted: Lean checks it.
import Derived.Test.YtalpoojepffldaaDoorMax0
import Derived.Test.YtalpoojepffldaaDoorPa
import Derived.Test.YtalpoojepffldaaDoorPd
namespace Go.Proofs.YtalpoojepffldaaDoor.Ma
open Go.RowKit Go.Proofs.YtalpoojepffldaaDoorW.PrintWords Go.Proofs.YtalpoojepffldaaDoorW.PrintLast Go.Proofs.YtalpoojepffldaaDoorW.PrintMore
attribute [local go_sem] max2_int min2_int max_two min_two max_three min_three max_four min_four   -- for this text's walks alone
set_option linter.unusedVariables false
set_option linter.unusedSimpArgs false

section
/-! ### event_Cut: function 23 -/
abbrev kb : Kd Int := Kd.int .u8
abbrev kbs : Kd (List Int) := Kd.slice 5 kb
/-- A row's pieces: the first two numbers of each say how long it is. -/
def hd2 (x y : Int) : Int := Go.bits .or .i64 (wrap64 ((wrap64 x) * 256)) (wrap64 y)
/-- How long the next piece is. -/
def cutN (x y : Int) (n : Nat) : Int := if wrap64 (n : Int) < hd2 x y then wrap64 (n : Int) else hd2 x y
def cutO : Nat → List Int → Option (List (List Int))
  | 0, _ => some []
  | _ + 1, [] => some []
  | _ + 1, [x] => some [[x]]
  | k + 1, x :: y :: l => if 0 ≤ hd2 x y then (cutO k (l.drop (cutN x y l.length).toNat)).map (l.take (cutN x y l.length).toNat :: ·) else none
def event_Cut.f (l0 : List Int) : Option (List (List Int)) := if l0.length ≤ 1000000 then cutO l0.length l0 else none
set_option maxHeartbeats 8000000 in
set_option maxRecDepth 100000 in
theorem clone_bytes (A0 : Option Addr) (c0 : Nat) (l0 : List Int) (w : World) (a0 : Kd.C (Kd.int .u8) w A0 l0.length l0) (hc0 : l0.length ≤ c0) (hb : l0.length ≤ 140737488355328) :
    Calls Tryd.prog 66 #[.slice A0 l0.length c0] w fun e w' => ∃ a1 : Value, e = .returned a1 ∧ Kd.R (Kd.int .u8) 5 w' w.heap.size (fun _ => True) a1 l0 ∧ Below w.heap.size w w' := by
  have a2 := Tryd.underlying41; have q41 : ∀ (w : World) (a : Option Addr) (n c n' c' : Nat), (binOp .eql 41 (.slice a n c) (.slice none n' c')).run Tryd.prog w = .ok (.bool a.isNone) w := fun w a n c n' c' => Lib.run_eql_slice_nil w _ _ a n c n' c' Tryd.underlying41
  cases A0 with
  | none =>
    have hl : l0 = [] := by
      cases l0 with
      | nil => rfl
      | cons x l => obtain ⟨ad, e, _⟩ := a0.2.2 (by simp); cases e
    subst hl; go_enter Tryd.func66, Tryd.ntmps66; go_wp2_with fail; go_ret; exact ⟨_, rfl, Kd.R_nil _ _ _ _ _, Below.refl _ _⟩
  | some ad =>
    have HC := Aside0.mk a0; clear a0; (have hlen : (0 + l0.length) * 1 ≤ 140737488355328 := by omega); go_enter Tryd.func66, Tryd.ntmps66; go_wp2_with (at_builtin; refine Kd.R_append_rows (Kd.int .u8) (w0 := w) w.heap.size rfl _ _ 41 5 (.int .u8 0) 1 rfl a2 (by kernel_rfl) rfl (by decide) (by decide) _ [] l0 (some ad) l0.length c0 (fun _ => True) (fun _ => False) rfl rfl ?ho ?hr (fun _ _ h => h) (fun _ h => h.elim) (fun _ _ => trivial) ?hB ?hbase hlen ?_)
    case ho => exact ⟨fun _ _ => trivial, [], by first | exact World.ownsRow_made w #[] 0 (Nat.le_refl _) (Nat.zero_le _) rfl | exact World.ownsRow_made w #[] 0 (by simp) (by simp) rfl, Reps.none _ _⟩
    case hr => exact Kd.C_alloc HC.out _
    case hB => exact (Below.refl _ w).alloc (Nat.le_refl _) _
    case hbase => first | omega | (simp; done)
    intro v' w1 hown a3 hgrow hat; go_wp2; go_ret; exact ⟨v', rfl, by simpa using hown, a3⟩
set_option maxHeartbeats 8000000 in
set_option maxRecDepth 100000 in
/-- slices.Clone of a row of rows: the rows are the same ones. -/
theorem clone_any {α : Type} (d : Kd α) (hsz : Aside0 (d.sz = 1)) (v : Value) (l : List α) (n0 : Nat) (ok : Nat → Prop) (w : World) (a0 : n0 ≤ w.heap.size) (hR : Kd.R d 41 w n0 ok v l) (hm : l.length ≤ 1000000) :
    Calls Tryd.prog 61 #[v] w fun e w' => ∃ v' : Value, e = .returned v' ∧ Kd.R d 41 w' n0 (fun _ => True) v' l ∧ Below w.heap.size w w' := by
  have a1 := Tryd.underlying43; have q43 : ∀ (w : World) (a : Option Addr) (n c n' c' : Nat), (binOp .eql 43 (.slice a n c) (.slice none n' c')).run Tryd.prog w = .ok (.bool a.isNone) w := fun w a n c n' c' => Lib.run_eql_slice_nil w _ _ a n c n' c' Tryd.underlying43; have hb := Kd.R_bound hR; obtain ⟨A, c, rfl, hl, _⟩ := Kd.R_reads hR; clear hR; obtain ⟨_, hO⟩ := hb; obtain ⟨A', c', e', hl', hrow⟩ := OwnRow.reads hO
  injection e' with e1 e2 e3
  subst e1 e3; clear e2 hl' hO
  cases A with
  | none =>
    have a2 : l = [] := by
      cases l with
      | nil => rfl
      | cons x l => obtain ⟨ad, e, _⟩ := hrow.2.2 (by simp); cases e
    subst a2; go_enter Tryd.func61, Tryd.ntmps61; go_wp2_with fail; go_ret; exact ⟨_, rfl, Kd.R_nil _ _ _ _ _, Below.refl _ _⟩
  | some ad =>
    have HC := Aside0.mk hrow; clear hrow; (have hlen : (0 + l.length) * 24 ≤ 140737488355328 := by omega); go_enter Tryd.func61, Tryd.ntmps61; go_wp2_with (at_builtin; refine Kd.R_append_rows d (w0 := w) n0 rfl _ _ 43 41 (.slice none 0 0) 24 rfl a1 (by rw [hsz.out]; kernel_rfl) (by rw [hsz.out]; rfl) (by rw [hsz.out]; decide) (by decide) _ [] l (some ad) l.length c (fun _ => True) (fun k => k < w.heap.size) rfl rfl ?ho ?hr (fun _ _ h => h) ?hokp (fun _ _ => trivial) ?hB ?hbase hlen ?_)
    case ho => exact ⟨fun _ _ => trivial, [], by rw [hsz.out]; first | exact World.ownsRow_made w #[] 0 a0 (Nat.zero_le _) rfl | exact World.ownsRow_made w #[] 0 (by simp; omega) (by simp) rfl, Reps.none _ _⟩
    case hr => exact ReadsRow.imp_ HC.out (below_alloc (Below.refl _ _) _) (fun _ _ hp => Kd.M_below (d.M_mono (fun k hk => hk.1.2.2.1) hp) (below_alloc (Below.refl _ _) _))
    case hokp => intro k hk; first | (refine ⟨trivial, ?_⟩; intro he; simp [Value.ownBlock] at he; omega) | (intro he; simp [Value.ownBlock] at he; omega)
    case hB => exact (Below.refl _ w).alloc a0 _
    case hbase => first | omega | (simp; omega)
    intro v' w1 hown hb1 hgrow hat; go_wp2; go_ret; exact ⟨v', rfl, by simpa using hown, ((Below.refl _ w).alloc (Nat.le_refl _) _).grown hgrow (by simp) (by intro k hk; simp [Value.ownBlock] at hk; omega)⟩
set_option maxHeartbeats 8000000 in
set_option maxRecDepth 100000 in
theorem pieces_walk (A : Option Addr) (n c : Nat) (w : World) :
    Calls Tryd.prog 60 #[.slice A n c] w fun e w' => e = .returned (.func (.func 79) #[] #[.pointer (some ⟨w.heap.size, 0, none⟩)]) ∧ w' = w.alloc (.cells #[.slice A n c] 41) := by
  go_enter Tryd.func60, Tryd.ntmps60; go_wp2_with fail; go_ret; exact ⟨rfl, rfl⟩
/-- A piece that is handed over: a row of its own. -/
def handed (n0 m : Nat) (x : List Int) (W : World) (vs : Array Value) : Prop := ∃ v, vs = #[v] ∧ Kd.R kb 5 W n0 (fun k => m ≤ k) v x
/-- What a round keeps: what came in, and the iterator's box. -/
def KpB (n0 B : Nat) (W W' : World) : Prop := W.heap.size ≤ W'.heap.size ∧ ∀ k, k < n0 ∨ k = B → W'.heap[k]? = W.heap[k]?
def boxLen : Option Obj → Nat
  | some (.cells #[.slice _ n _] _ _) => n
  | _ => 0
set_option maxHeartbeats 8000000 in
set_option maxRecDepth 100000 in
theorem pieces1_box (B : Nat) (w0 w : World) (A : Option Addr) (c : Nat) (bs : List Int) (all : List (List Int)) (hC : Kd.C kb w0 A bs.length bs) (hc : bs.length ≤ c) (hb : Below w0.heap.size w0 w) (hBn : w0.heap.size ≤ B) (hbox : w.heap[B]? = some (.cells #[.slice A bs.length c] 41 (0, 0))) (hm : bs.length ≤ 1000000) (hall : cutO bs.length bs = some all) :
    Ev.SeqBox Fence.wide 5 Tryd.prog 79 #[.pointer (some ⟨B, 0, none⟩)] (handed w0.heap.size) (KpB w0.heap.size B) (fun xs => xs = all) all.length B w := by
  intro l J W hW hJg hJb hY h0; refine callsIn_of_wp Tryd.func79 rfl trivial ?_ rfl; simp only [Tryd.ntmps79, List.size_toArray, List.length_cons, List.length_nil, Nat.reduceAdd, Nat.reduceSub, Array.replicate_succ, Array.replicate_zero, List.push_toArray, List.append_toArray, List.nil_append, List.cons_append]
  gi_wp2
  have HCb := Aside0.mk hC; have b5 : Aside0 (∀ k, k < w0.heap.size → W.heap[k]? = w0.heap[k]?) := ⟨fun k hk => (hW.block k (Nat.lt_of_lt_of_le hk hb.size)).trans (hb.block k hk)⟩; have b6 : Aside0 (W.heap[B]? = some (.cells #[.slice A bs.length c] 41 (0, 0))) := ⟨(hW.block B (blk_lt hbox)).trans hbox⟩; have HSz : Aside0 (w0.heap.size ≤ W.heap.size) := ⟨Nat.le_trans hb.size hW.size⟩; have HYY := Aside0.mk hY; have b7 := Aside0.mk hJg; have a5 := Aside0.mk hJb; have b8 := Aside0.mk h0; have HBn := Aside0.mk hBn; have HM := Aside0.mk hm; have HA := Aside0.mk hall; clear hC hb hbox hW hY h0 hJg hJb hBn hm hall
  gi_loopw [3] (fun v3 wr => ∃ (A' : Option Addr) (c' : Nat) (rest : List Int) (pre : List (List Int)) (k : Nat) (tail : List (List Int)), Aside0 (wr.heap[B]? = some (.cells #[.slice A' rest.length c'] 41 (0, 0))) ∧ Aside0 (Kd.C kb w0 A' rest.length rest) ∧ Aside0 (rest.length ≤ c') ∧ Aside0 (∀ k, k < w0.heap.size → wr.heap[k]? = w0.heap[k]?) ∧ Aside0 (w0.heap.size ≤ wr.heap.size) ∧ Aside0 (J pre wr) ∧ Aside0 ((rest.length ≤ k ∧ rest.length ≤ 1000000) ∧ cutO k rest = some tail ∧ pre ++ tail = all)) (fun v3 wr => boxLen wr.heap[B]?)
  case atStart => exact ⟨A, c, bs, [], bs.length, all, b6, HCb, ⟨hc⟩, b5, HSz, b8, ⟨⟨Nat.le_refl _, HM.out⟩, HA.out, rfl⟩⟩
  case round =>
    clear b6 HCb b5 HSz b8 HA; obtain ⟨A', c', rest, pre, k, tail, HX, HC', Hc', HBk, HSk, HJ, HP⟩ := hrel; have k0 : wr.cell? ⟨B, 0, none⟩ = some (.slice A' rest.length c') := (blk_cell HX.out 0).trans rfl; have kf := blk_frozen HX.out 0
    cases rest with
    | nil =>
      gi_wp2
      go_end0; obtain ⟨_, hcut, hout⟩ := HP.out; (have ht : tail = [] := by cases k <;> simpa [cutO] using hcut.symm); subst ht; rw [List.append_nil] at hout; exact ⟨⟨_, rfl⟩, _, hout, HJ.out⟩
    | cons x rest =>
      obtain ⟨ad, eA, hcell⟩ := HC'.out.2.2 (by simp); subst eA; clear hcell; have hx := Ev.ints_at HC'.out 0 (.int .u8 x) rfl; have hx := (Ev.cell_of HBk.out hx).trans hx; obtain ⟨b, o, sp⟩ := ad; obtain rfl : sp = none := Ev.spot_none hx; have kx : wr.cell? ⟨b, o, none⟩ = some (.int .u8 x) := hx; clear hx; obtain ⟨hk, hcut, hout⟩ := HP.out; obtain ⟨k', rfl⟩ : ∃ j, k = j + 1 := ⟨k - 1, by simp at hk; omega⟩
      cases rest with
      | nil =>
        obtain ⟨tail', ht', rfl⟩ : ∃ tail', cutO k' [] = some tail' ∧ [x] :: tail' = tail := by
          rw [cutO] at hcut; exact ⟨[], by cases k' <;> rfl, by simpa using hcut⟩
        (have h1c : (1 : Int) ≤ (c' : Int) := by have := Hc'.out; simp at this; omega); have hcl := clone_bytes (some ⟨b, o, none⟩) c' [x] wr (Ev.C_keep_ HC'.out HBk.out) Hc'.out (by simp); clear hcut
        gi_wp2
        refine ⟨trivial, callsIn_wide.2 (hcl.mono ?_)⟩; rintro e w4 ⟨v, rfl, hR, a1⟩; have a3 := blk_below HX.out a1; obtain ⟨fn, tmps, assign, body, hy, hRd⟩ := HYY.out pre [x] #[v] wr w4 HJ.out a1 (by have := congrArg List.length hout; simp at this; omega) ⟨v, rfl, Kd.R_lower (Kd.R_mono (Kd.R_bound hR) (fun k hk => hk.2.1)) HSk.out⟩
        (try dsimp only at hy)
        have b0 : Aside0 (∀ k, k < w0.heap.size → w4.heap[k]? = w0.heap[k]?) := ⟨fun k hk => (a1.block k (Nat.lt_of_lt_of_le hk HSk.out)).trans (HBk.out k hk)⟩; have b1 : Aside0 (w0.heap.size ≤ w4.heap.size) := ⟨Nat.le_trans HSk.out a1.size⟩; clear hR a1 hcl
        gi_wp2
        refine hRd.mono ?_; rintro e W3 ⟨rfl, a4, a2⟩; have a0 := (a2.2 B (.inr rfl)).trans a3; have k3 : W3.cell? ⟨B, 0, none⟩ = some (.slice (some ⟨b, o, none⟩) 1 c') := (blk_cell a0 0).trans rfl; have b9 := blk_frozen a0 0; have a6 : Aside0 (∀ k, k < w0.heap.size → W3.heap[k]? = w0.heap[k]?) := ⟨fun k hk => (a2.2 k (.inl hk)).trans (b0.out k hk)⟩; have a7 : Aside0 (w0.heap.size ≤ W3.heap.size) := ⟨Nat.le_trans b1.out a2.1⟩; have a8 := Aside0.mk a4; have a0 := Aside0.mk a0; clear a4 a2 a3; have nil_C : ∀ A, Kd.C kb w0 A ([] : List Int).length [] := fun A => ⟨rfl, by simp, fun h => absurd h (Nat.lt_irrefl 0)⟩; by_cases c3 : c' = 1
        · subst c3
          gi_wp2
          go_roundw
          case rel => exact ⟨some ⟨b, o, none⟩, 0, [], pre ++ [[x]], k', tail', ⟨by first | exact blk_set a0.out 0 _ | (rw [List.length_drop]; exact blk_set a0.out 0 _)⟩, ⟨nil_C _⟩, ⟨Nat.le_refl _⟩, ⟨fun k hk => (Below.heap_setCell _ ⟨B, 0, none⟩ _ k (show k ≠ B by have := HBn.out; omega)).trans (a6.out k hk)⟩, ⟨by have := a7.out; simpa using this⟩, ⟨a5.out _ _ _ a8.out⟩, ⟨⟨by simp, by simp⟩, ht', by simpa using hout⟩⟩
          case measure =>
            have h1 := blk_set a0.out 0 (.slice (some ⟨b, o, none⟩) ([] : List Int).length (0))
            (try rw [List.length_drop] at h1)
            show boxLen _ < boxLen _; rw [HX.out]; (first | rw [h1] | (simp only [List.length_nil] at h1; rw [h1])); show ([] : List Int).length < [x].length; simp <;> omega
        · have hc1' : ((1 : Int) = (c' : Int)) = False := eq_false (by omega)
          gi_wp2
          go_roundw
          case rel => exact ⟨some ⟨b, o + 1, none⟩, c' - 1, [], pre ++ [[x]], k', tail', ⟨by first | exact blk_set a0.out 0 _ | (rw [List.length_drop]; exact blk_set a0.out 0 _)⟩, ⟨nil_C _⟩, ⟨Nat.zero_le _⟩, ⟨fun k hk => (Below.heap_setCell _ ⟨B, 0, none⟩ _ k (show k ≠ B by have := HBn.out; omega)).trans (a6.out k hk)⟩, ⟨by have := a7.out; simpa using this⟩, ⟨a5.out _ _ _ a8.out⟩, ⟨⟨by simp, by simp⟩, ht', by simpa using hout⟩⟩
          case measure =>
            have h1 := blk_set a0.out 0 (.slice (some ⟨b, o + 1, none⟩) ([] : List Int).length (c' - 1))
            (try rw [List.length_drop] at h1)
            show boxLen _ < boxLen _; rw [HX.out]; (first | rw [h1] | (simp only [List.length_nil] at h1; rw [h1])); show ([] : List Int).length < [x].length; simp <;> omega
      | cons y rest =>
        have ky : wr.cell? ⟨b, o + 1, none⟩ = some (.int .u8 y) := by
          have h2 := Ev.ints_at HC'.out 1 (.int .u8 y) rfl; exact (Ev.cell_of HBk.out h2).trans h2
        have l0 : (0 < (rest.length : Int) + 2) = True := eq_true (by omega); have l1 : (1 < (rest.length : Int) + 2) = True := eq_true (by omega); have l2 : (2 ≤ (rest.length : Int) + 2) = True := eq_true (by omega); have l3 : ((rest.length : Int) + 1 + 1 < 2) = False := eq_false (by omega); have l4 : (0 < (rest.length : Int) + 1 + 1) = True := eq_true (by omega)
        obtain ⟨tail', b3, ht', rfl⟩ : ∃ tail', 0 ≤ hd2 x y ∧ cutO k' (rest.drop (cutN x y rest.length).toNat) = some tail' ∧ rest.take (cutN x y rest.length).toNat :: tail' = tail := by
          rw [cutO] at hcut
          split at hcut
          case isFalse => cases hcut
          rename_i b3
          obtain ⟨tail', ht', h2⟩ := Option.map_eq_some_iff.1 hcut; exact ⟨tail', b3, ht', h2⟩
        clear hcut; have hw : wrap64 (rest.length : Int) = (rest.length : Int) := by have := hk.2; simp at this; unfold wrap64; omega
        obtain ⟨N, hNle, hN⟩ : ∃ N : Nat, N ≤ rest.length ∧ cutN x y rest.length = (N : Int) := by
          unfold cutN; rw [hw]
          split
          · exact ⟨rest.length, Nat.le_refl _, rfl⟩
          · exact ⟨(hd2 x y).toNat, by omega, by omega⟩
        rw [hN, Int.toNat_natCast] at ht' hout; have b4 := hN; unfold cutN hd2 at b4; clear hw hN b3
        gi_wp2
        refine wpIn_wide.2 ?_; refine start_ (n := 15) (S := fun w' => w'.cell? ⟨B, 0, none⟩ = some (.slice (some ⟨b, o, none⟩) (rest.length + 2) c') ∧ w'.cell? ⟨b, o, none⟩ = some (.int .u8 x) ∧ w'.cell? ⟨b, o + 1, none⟩ = some (.int .u8 y)) (ds := []) #[false, false, false, false, false, false, false, false, false, false, false, false, false, false, false] (by kernel_rfl) rfl rfl ⟨k0, kx, ky⟩ (fun hHeld => ?_); refine tv_ 0 (some 12) #[true, false, false, false, false, false, false, false, false, false, false, false, false, false, false] hHeld ?_; refine pv_ 1 (some 13) #[true, true, false, false, false, false, false, false, false, false, false, false, false, false, false] ?_; refine tv_ 2 (some 14) #[true, true, true, false, false, false, false, false, false, false, false, false, false, false, false] hHeld ?_; refine pv_ 3 (some 15) #[true, true, true, true, false, false, false, false, false, false, false, false, false, false, false] ?_; refine pv_ 4 (some 16) #[true, true, true, true, true, false, false, false, false, false, false, false, false, false, false] ?_; refine tv_ 5 (some 17) #[true, true, true, true, true, true, false, false, false, false, false, false, false, false, false] hHeld ?_; refine pv_ 6 (some 18) #[true, true, true, true, true, true, true, false, false, false, false, false, false, false, false] ?_; refine tv_ 7 (some 19) #[true, true, true, true, true, true, true, true, false, false, false, false, false, false, false] hHeld ?_; refine pv_ 8 (some 20) #[true, true, true, true, true, true, true, true, true, false, false, false, false, false, false] ?_; refine pv_ 9 (some 21) #[true, true, true, true, true, true, true, true, true, true, false, false, false, false, false] ?_; refine tv_ 10 (some 22) #[true, true, true, true, true, true, true, true, true, true, true, false, false, false, false] hHeld ?_; refine pv_ 11 (some 23) #[true, true, true, true, true, true, true, true, true, true, true, true, false, false, false] ?_; refine pv_ 12 (some 24) #[true, true, true, true, true, true, true, true, true, true, true, true, true, false, false] ?_; refine pv_ 13 (some 25) #[true, true, true, true, true, true, true, true, true, true, true, true, true, true, false] ?_; refine pv_ 14 (some 3) #[true, true, true, true, true, true, true, true, true, true, true, true, true, true, true] ?_; refine done_ (by kernel_rfl) ?_
        (try rw [b4])
        clear b4 kx ky; by_cases c0 : c' = 2
        · subst c0; (obtain rfl : rest = [] := by have := Hc'.out; simp at this; cases rest with | nil => rfl | cons a b => simp at this); (obtain rfl : N = 0 := by simpa using hNle); have nil_C : ∀ A, Kd.C kb w0 A ([] : List Int).length [] := fun A => ⟨rfl, by simp, fun h => absurd h (Nat.lt_irrefl 0)⟩; have hcl := fun (W : World) (h : ∀ k, k < w0.heap.size → W.heap[k]? = w0.heap[k]?) => clone_bytes (some ⟨b, o, none⟩) 0 [] W (Ev.C_keep_ (nil_C _) h) (Nat.le_refl _) (by simp); simp only [List.length_nil] at hcl
          gi_wp2
          refine ⟨trivial, callsIn_wide.2 ((hcl _ (by intro k hk; exact (Below.heap_setCell _ ⟨B, 0, none⟩ _ k (show k ≠ B by have := HBn.out; omega)).trans (HBk.out k hk))).mono ?_)⟩; rintro e w4 ⟨v, rfl, hR, a1⟩; have a3 := blk_below (blk_drew (blk_set HX.out 0 (.slice (some ⟨b, o, none⟩) 0 (0)))) a1; have b2 : J pre ((wr.setCell ⟨B, 0, none⟩ (.slice (some ⟨b, o, none⟩) 0 (0))).drew) := b7.out _ _ _ (a5.out _ _ _ HJ.out) (below_drew1 (Below.refl _ _)); obtain ⟨fn, tmps, assign, body, hy, hRd⟩ := HYY.out pre [] #[v] _ w4 b2 a1 (by have := congrArg List.length hout; simp at this; omega) ⟨v, rfl, Kd.R_lower (Kd.R_mono (Kd.R_bound hR) (fun k hk => hk.2.1)) (by show w0.heap.size ≤ _; have := HSk.out; simpa using this)⟩
          (try dsimp only at hy)
          have b0 : Aside0 (∀ k, k < w0.heap.size → w4.heap[k]? = w0.heap[k]?) := ⟨fun k hk => (a1.block k (by have := HSk.out; simp; omega)).trans ((Below.heap_setCell _ ⟨B, 0, none⟩ _ k (show k ≠ B by have := HBn.out; omega)).trans (HBk.out k hk))⟩; have b1 : Aside0 (w0.heap.size ≤ w4.heap.size) := ⟨Nat.le_trans (by have := HSk.out; simpa using this) a1.size⟩; clear hR a1 b2
          gi_wp2
          refine hRd.mono ?_; rintro e W3 ⟨rfl, a4, a2⟩; have a0 := (a2.2 B (.inr rfl)).trans a3; have k3 : W3.cell? ⟨B, 0, none⟩ = some (.slice (some ⟨b, o, none⟩) 0 (0)) := (blk_cell a0 0).trans rfl; have b9 := blk_frozen a0 0; have a6 : Aside0 (∀ k, k < w0.heap.size → W3.heap[k]? = w0.heap[k]?) := ⟨fun k hk => (a2.2 k (.inl hk)).trans (b0.out k hk)⟩; have a7 : Aside0 (w0.heap.size ≤ W3.heap.size) := ⟨Nat.le_trans b1.out a2.1⟩; have a8 := Aside0.mk a4; have a0 := Aside0.mk a0; clear a4 a2 a3
          gi_wp2
          go_roundw
          case rel => exact ⟨some ⟨b, o, none⟩, 0, [], pre ++ [[]], k', tail', ⟨by first | exact blk_set a0.out 0 _ | (rw [List.length_drop]; exact blk_set a0.out 0 _)⟩, ⟨nil_C _⟩, ⟨Nat.le_refl _⟩, ⟨fun k hk => (Below.heap_setCell _ ⟨B, 0, none⟩ _ k (show k ≠ B by have := HBn.out; omega)).trans (a6.out k hk)⟩, ⟨by have := a7.out; simpa using this⟩, ⟨a5.out _ _ _ a8.out⟩, ⟨⟨by simp, by simp⟩, ht', by simpa using hout⟩⟩
          case measure =>
            have h1 := blk_set a0.out 0 (.slice (some ⟨b, o, none⟩) ([] : List Int).length (0))
            (try rw [List.length_drop] at h1)
            show boxLen _ < boxLen _; rw [HX.out]; (first | rw [h1] | (simp only [List.length_nil] at h1; rw [h1])); show ([] : List Int).length < (x :: y :: ([] : List Int)).length; simp <;> omega
        · have c1 : Kd.C kb w0 (some ⟨b, o + 2, none⟩) rest.length rest := by
            have h := Kd.C_drop (m := 2) HC'.out (by simp) Hc'.out; rw [if_neg c0] at h; exact h
          have hcr : rest.length + 2 ≤ c' := Hc'.out; (have hlen : (rest.take N).length = N := by rw [List.length_take]; omega); have hcl := fun (W : World) (h : ∀ k, k < w0.heap.size → W.heap[k]? = w0.heap[k]?) => clone_bytes (some ⟨b, o + 2, none⟩) (c' - 2) (rest.take N) W (Ev.C_keep_ (Kd.C_take c1 hNle) h) (by omega) (by rw [hlen]; have := hk.2; simp at this; omega); simp only [hlen] at hcl; have n1 : ((N : Int) ≤ ((c' - 2 : Nat) : Int)) = True := eq_true (by omega); have n2 : ((N : Int) ≤ (rest.length : Int)) = True := eq_true (by omega); have n3 : (2 ≤ (c' : Int)) = True := eq_true (by omega)
          gi_wp2
          refine ⟨trivial, callsIn_wide.2 ((hcl _ (by intro k hk; exact (Below.heap_setCell _ ⟨B, 0, none⟩ _ k (show k ≠ B by have := HBn.out; omega)).trans (HBk.out k hk))).mono ?_)⟩; rintro e w4 ⟨v, rfl, hR, a1⟩; have a3 := blk_below (blk_drew (blk_set HX.out 0 (.slice (some ⟨b, o + 2, none⟩) rest.length (c' - 2)))) a1; have b2 : J pre ((wr.setCell ⟨B, 0, none⟩ (.slice (some ⟨b, o + 2, none⟩) rest.length (c' - 2))).drew) := b7.out _ _ _ (a5.out _ _ _ HJ.out) (below_drew1 (Below.refl _ _)); obtain ⟨fn, tmps, assign, body, hy, hRd⟩ := HYY.out pre (rest.take N) #[v] _ w4 b2 a1 (by have := congrArg List.length hout; simp at this; omega) ⟨v, rfl, Kd.R_lower (Kd.R_mono (Kd.R_bound hR) (fun k hk => hk.2.1)) (by show w0.heap.size ≤ _; have := HSk.out; simpa using this)⟩
          (try dsimp only at hy)
          have b0 : Aside0 (∀ k, k < w0.heap.size → w4.heap[k]? = w0.heap[k]?) := ⟨fun k hk => (a1.block k (by have := HSk.out; simp; omega)).trans ((Below.heap_setCell _ ⟨B, 0, none⟩ _ k (show k ≠ B by have := HBn.out; omega)).trans (HBk.out k hk))⟩; have b1 : Aside0 (w0.heap.size ≤ w4.heap.size) := ⟨Nat.le_trans (by have := HSk.out; simpa using this) a1.size⟩; clear hR a1 b2
          gi_wp2
          refine hRd.mono ?_; rintro e W3 ⟨rfl, a4, a2⟩; have a0 := (a2.2 B (.inr rfl)).trans a3; have k3 : W3.cell? ⟨B, 0, none⟩ = some (.slice (some ⟨b, o + 2, none⟩) rest.length (c' - 2)) := (blk_cell a0 0).trans rfl; have b9 := blk_frozen a0 0; have a6 : Aside0 (∀ k, k < w0.heap.size → W3.heap[k]? = w0.heap[k]?) := ⟨fun k hk => (a2.2 k (.inl hk)).trans (b0.out k hk)⟩; have a7 : Aside0 (w0.heap.size ≤ W3.heap.size) := ⟨Nat.le_trans b1.out a2.1⟩; have a8 := Aside0.mk a4; have a0 := Aside0.mk a0; clear a4 a2 a3; have a9 := Kd.C_drop c1 hNle (show rest.length ≤ c' - 2 by omega); by_cases c2 : c' - 2 = N
          · rw [if_pos c2] at a9
            gi_wp2
            go_roundw
            case rel => exact ⟨some ⟨b, o + 2, none⟩, 0, rest.drop N, pre ++ [rest.take N], k', tail', ⟨by first | exact blk_set a0.out 0 _ | (rw [List.length_drop]; exact blk_set a0.out 0 _)⟩, ⟨a9⟩, ⟨by rw [List.length_drop]; omega⟩, ⟨fun k hk => (Below.heap_setCell _ ⟨B, 0, none⟩ _ k (show k ≠ B by have := HBn.out; omega)).trans (a6.out k hk)⟩, ⟨by have := a7.out; simpa using this⟩, ⟨a5.out _ _ _ a8.out⟩, ⟨⟨by have := hk.1; simp at this ⊢; omega, by have := hk.2; simp at this ⊢; omega⟩, ht', by simpa using hout⟩⟩
            case measure =>
              have h1 := blk_set a0.out 0 (.slice (some ⟨b, o + 2, none⟩) (rest.drop N : List Int).length (0))
              (try rw [List.length_drop] at h1)
              show boxLen _ < boxLen _; rw [HX.out]; (first | rw [h1] | (simp only [List.length_nil] at h1; rw [h1])); show rest.length - N < (x :: y :: rest).length; simp <;> omega
          · rw [if_neg c2] at a9
            have a9 : Kd.C kb w0 (some ⟨b, o + 2 + N, none⟩) (rest.drop N).length (rest.drop N) := by
              have e : (some (⟨b, o + 2, none⟩ : Addr)).map (·.add (N * kb.sz)) = some ⟨b, o + 2 + N, none⟩ := by
                show some ((⟨b, o + 2, none⟩ : Addr).add (N * 1)) = _; rw [Nat.mul_one, Addr.add_lit]
              rw [e] at a9; exact a9
            gi_wp2
            go_roundw
            case rel => exact ⟨some ⟨b, o + 2 + N, none⟩, c' - 2 - N, rest.drop N, pre ++ [rest.take N], k', tail', ⟨by first | exact blk_set a0.out 0 _ | (rw [List.length_drop]; exact blk_set a0.out 0 _)⟩, ⟨a9⟩, ⟨by rw [List.length_drop]; omega⟩, ⟨fun k hk => (Below.heap_setCell _ ⟨B, 0, none⟩ _ k (show k ≠ B by have := HBn.out; omega)).trans (a6.out k hk)⟩, ⟨by have := a7.out; simpa using this⟩, ⟨a5.out _ _ _ a8.out⟩, ⟨⟨by have := hk.1; simp at this ⊢; omega, by have := hk.2; simp at this ⊢; omega⟩, ht', by simpa using hout⟩⟩
            case measure =>
              have h1 := blk_set a0.out 0 (.slice (some ⟨b, o + 2 + N, none⟩) (rest.drop N : List Int).length (c' - 2 - N))
              (try rw [List.length_drop] at h1)
              show boxLen _ < boxLen _; rw [HX.out]; (first | rw [h1] | (simp only [List.length_nil] at h1; rw [h1])); show rest.length - N < (x :: y :: rest).length; simp <;> omega
theorem cutO_len : ∀ (k : Nat) (l : List Int) (r : List (List Int)), cutO k l = some r → r.length ≤ l.length
  | 0, l, r, h => by simp [cutO] at h; subst h; simp
  | k + 1, [], r, h => by simp [cutO] at h; subst h; simp
  | k + 1, [x], r, h => by simp [cutO] at h; subst h; simp
  | k + 1, x :: y :: l, r, h => by
    rw [cutO] at h
    split at h
    · obtain ⟨r', h', rfl⟩ := Option.map_eq_some_iff.1 h; have := cutO_len k _ _ h'; rw [List.length_drop] at this; simp only [List.length_cons]; omega
    · cases h
theorem kp_trans {n0 B : Nat} {X Y Z : World} (h : KpB n0 B X Y) (k : KpB n0 B Y Z) : KpB n0 B X Z := ⟨Nat.le_trans h.1 k.1, fun i hi => (k.2 i hi).trans (h.2 i hi)⟩
theorem kp_put {n0 B m : Nat} (hB : B < m) (hn : n0 ≤ m) (W : World) (l : Nat) (o o' : Obj) (hl : m ≤ l) (_h : W.heap[l]? = some o) (_hc : o.isCells = false) : KpB n0 B W (W.putObj l o') :=
  ⟨by simp [World.putObj], fun k hk => World.putObj_heap_other (by omega)⟩
theorem handed_put {n0 m : Nat} {x : List Int} {W : World} {vs : Array Value} {l : Nat} {o o' : Obj} (h : handed n0 m x W vs) (hl : W.heap[l]? = some o) (hc : o.isCells = false) : handed n0 m x (W.putObj l o') vs := by
  obtain ⟨v, e, hR⟩ := h; refine ⟨v, e, Kd.R_mono (Kd.R_move (Kd.R_bound hR) (fun k hk => World.putObj_heap_other ?_)) (fun _ hk => hk.1)⟩; obtain ⟨_, _, _, q, _, cells, hq⟩ := hk; rintro rfl; rw [hq] at hl; obtain rfl := Option.some.inj hl; cases hc
/-- The rows that came so far, in the box that Cut has for them; no two lead to one block; the iterator's box lies behind it. -/
def gath (P : Nat → Prop) (w : World) (pre : List (List Int)) (W : World) : Prop := (∃ v, W.heap[w.heap.size]? = some (.cells #[v] 43 (0, 0)) ∧ Kd.S kbs 41 W w.heap.size (fun k => (k ≠ w.heap.size ∧ k ≠ w.heap.size + 1) ∧ P k) v pre) ∧ (∃ cs, W.heap[w.heap.size + 1]? = some (.cells cs 41 (0, 0))) ∧ Below w.heap.size w W
theorem gath_of {P : Nat → Prop} {w W W' : World} {pre : List (List Int)} (h : gath P w pre W) (hk : ∀ (k : Nat) (cs : Array Value) (t : TypeId), k ≠ w.heap.size + 1 → W.heap[k]? = some (.cells cs t (0, 0)) → W'.heap[k]? = W.heap[k]?) (hB : ∀ cs, W.heap[w.heap.size + 1]? = some (.cells cs 41 (0, 0)) → ∃ cs', W'.heap[w.heap.size + 1]? = some (.cells cs' 41 (0, 0))) (hb : Below w.heap.size W W') : gath P w pre W' := by
  obtain ⟨⟨v, h1, h2⟩, ⟨cs, hc⟩, h3⟩ := h; refine ⟨⟨v, (hk _ _ _ (by omega) h1).trans h1, Kd.S_mono (Kd.S_move (Kd.S_bound h2) (fun k hk' => ?_)) (fun _ hk' => hk'.1)⟩, hB cs hc, h3.trans hb⟩; obtain ⟨h4, _, _, q, _, cells, hq⟩ := hk'; exact hk k _ _ h4.1.2 hq
theorem gath_own (P : Nat → Prop) (w : World) (m : Nat) (hm : w.heap.size ≤ m) : OwnFrom m (gath P w) := by
  intro s A B row hs hg hr
  have hkeep : ∀ (k : Nat) (cs : Array Value) (t : TypeId), A.heap[k]? = some (.cells cs t (0, 0)) → B.heap[k]? = A.heap[k]? := by
    intro k cs t hk; refine hg.block k (blk_lt hk) (fun e => ?_); obtain ⟨_, o, ho, hc⟩ := hr k e.symm; rw [hk] at ho; obtain rfl := Option.some.inj ho; cases hc
  exact gath_of hs (fun k cs t _ hk => hkeep k cs t hk) (fun cs hc => ⟨cs, (hkeep _ _ _ hc).trans hc⟩) ((Below.refl _ A).grown hg (by have := hs.2.2.size; exact this) (fun k e => by obtain ⟨h, _⟩ := hr k e; omega))
theorem gath_grow (P : Nat → Prop) (w : World) (s : List (List Int)) (A A' : World) (h : gath P w s A) (hb : Below A.heap.size A A') : gath P w s A' :=
  gath_of h (fun k cs t _ hk => hb.block k (blk_lt hk)) (fun cs hc => ⟨cs, blk_below hc hb⟩) (hb.mono h.2.2.size)
theorem gath_box (P : Nat → Prop) (w : World) (s : List (List Int)) (A : World) (v : Value) (h : gath P w s A) : gath P w s (A.setCell ⟨w.heap.size + 1, 0, none⟩ v) :=
  gath_of h (fun k cs t hk _ => Below.heap_setCell A ⟨w.heap.size + 1, 0, none⟩ v k hk) (fun cs hc => ⟨_, blk_set hc 0 v⟩) ((Below.refl _ A).setCell (p := ⟨w.heap.size + 1, 0, none⟩) (by simp) v)
theorem gath_bound {P : Nat → Prop} {w W : World} {pre : List (List Int)} (h : gath P w pre W) : gath (fun k => k < W.heap.size) w pre W := by
  obtain ⟨⟨v, h1, h2⟩, h3⟩ := h; exact ⟨⟨v, h1, Kd.S_mono (Kd.S_bound h2) (fun k hk => ⟨hk.1.1, hk.2.2.1⟩)⟩, h3⟩
attribute [local go_sem] Oper.semAt_some
set_option maxHeartbeats 8000000 in
set_option maxRecDepth 100000 in
theorem event_Cut.calls (A0 : Option Addr) (c0 : Nat) (l0 : List Int) (r : List (List Int)) (w : World) (b9 : Kd.C (Kd.int .u8) w A0 l0.length l0) (c4 : l0.length ≤ c0) (h : event_Cut.f l0 = some r) :
    Calls Tryd.prog 23 #[.slice A0 l0.length c0] w fun e w' => ∃ a4 : Value, e = .returned a4 ∧ Kd.S (Kd.slice 5 (Kd.int .u8)) 41 w' w.heap.size (fun k_ => w.heap.size ≤ k_) a4 r ∧ Below w.heap.size w w' := by
  unfold event_Cut.f at h
  split at h
  case isFalse => cases h
  rename_i hb
  have hlen := cutO_len _ _ _ h; refine (callsIn_wide (n := 6)).1 ?_; refine callsIn_of_wp_marks Tryd.func23 rfl trivial ?_ rfl; simp only [Tryd.ntmps23, List.size_toArray, List.length_cons, List.length_nil, Nat.reduceAdd, Nat.reduceSub, Array.replicate_succ, Array.replicate_zero, List.push_toArray, List.append_toArray, List.nil_append, List.cons_append]
  gi_wp2
  refine ⟨trivial, callsIn_wide.2 ((pieces_walk A0 l0.length c0 _).mono ?_)⟩; rintro e w2 ⟨rfl, rfl⟩
  gi_wp2
  have hEnt := enters_of Tryd.func79 (by kernel_rfl) rfl; have c5 : ((w.alloc (.cells #[.slice none 0 0] 43)).alloc (.cells #[.slice A0 l0.length c0] 41)).heap[w.heap.size]? = some (.cells #[.slice none 0 0] 43 (0, 0)) := blk_alloc (blk_new _ _) _
  have a5 : ((w.alloc (.cells #[.slice none 0 0] 43)).alloc (.cells #[.slice A0 l0.length c0] 41)).heap[w.heap.size + 1]? = some (.cells #[.slice A0 l0.length c0] 41 (0, 0)) := by
    have h1 := blk_new (w.alloc (.cells #[.slice none 0 0] 43)) (.cells #[.slice A0 l0.length c0] 41 (0, 0))
    rwa [World.size_alloc] at h1
  have a6 : Below w.heap.size w ((w.alloc (.cells #[.slice none 0 0] 43)).alloc (.cells #[.slice A0 l0.length c0] 41)) := below_alloc (below_alloc (Below.refl _ _) _) _; have c6 := Tryd.underlying43
  refine Ev.wpIn_rangeFunc_box rfl (by decide) (gf := 79) (lb := #[.pointer (some ⟨w.heap.size + 1, 0, none⟩)]) rfl trivial hEnt
    (pieces1_box (w.heap.size + 1) w _ A0 c0 l0 r b9 c4 a6 (by omega) a5 hb h) (by simp) kp_trans (kp_put (by simp) (by simp; omega)) (Below.refl _ _) (fun m x W vs hv => by obtain ⟨v, rfl, _⟩ := hv; rfl) (fun m x W vs l o o' hv hl hc => handed_put hv hl hc)
    (gath (fun _ => True) w) (gath_own _ w _ (by simp; omega)) (gath_grow _ w) (gath_box _ w) (fun m => gath (fun k => k < m) w) (fun pre A A' h hb => gath_grow _ w pre A A' (gath_bound h) hb) (fun m => gath_own _ w _ (by simp; omega)) ⟨⟨_, c5, Kd.S_nil _ _ _ _ _⟩, ⟨_, a5⟩, a6⟩
    (fun vs => { tmps := #[.slice A0 l0.length c0, undef, .slice none 0 0, .pointer (some ⟨w.heap.size, 0, none⟩), vs.getD 0 undef, .slice A0 l0.length c0, .func (.func 79) #[] #[.pointer (some ⟨w.heap.size + 1, 0, none⟩)], vs.getD 0 undef, undef, undef, undef, undef, undef, undef], defers := [] }) ?assign ?body ?done
  case assign =>
    rintro l m x vs W K ⟨v, rfl, hRv⟩ hK; obtain ⟨A1, c1, rfl⟩ := Kd.R_slice hRv
    gi_wp2
    exact hK
  case body =>
    rintro l m pre x vs W ⟨⟨u, hbx, hRu⟩, ⟨cs, hbc⟩, hbl⟩ hN ⟨v, rfl, hRv⟩; obtain ⟨A1, c1, rfl⟩ := Kd.R_slice hRv; obtain ⟨A2, c2, rfl⟩ := Kd.R_slice (Kd.S_R hRu); show Code.wpIn _ _ _ _ _ { tmps := #[.slice A0 l0.length c0, undef, .slice none 0 0, .pointer (some ⟨w.heap.size, 0, none⟩), .slice A1 x.length c1, .slice A0 l0.length c0, .func (.func 79) #[] #[.pointer (some ⟨w.heap.size + 1, 0, none⟩)], .slice A1 x.length c1, undef, undef, undef, undef, undef, undef], defers := [] } W; have q0 : W.cell? ⟨w.heap.size, 0, none⟩ = some (.slice A2 pre.length c2) := (blk_cell hbx 0).trans rfl; have hsz := hbl.size
    have a7 : Kd.R kb 5 W w.heap.size (fun k => m ≤ k ∧ (((k ≠ w.heap.size ∧ k ≠ w.heap.size + 1) ∧ True) ∧ some k ≠ (Value.slice A2 pre.length c2).ownBlock)) (.slice A1 x.length c1) x :=
      Kd.R_mono (Kd.R_apartR (Kd.R_types (Kd.R_types hRv hbx (by decide)) hbc (by decide)) (Kd.S_R hRu) (by decide)) (fun k hk => ⟨hk.1.1.1, ⟨⟨hk.1.1.2, hk.1.2⟩, trivial⟩, hk.2⟩)
    have a8 : Kd.S kbs 41 W w.heap.size (fun k => ((k ≠ w.heap.size ∧ k ≠ w.heap.size + 1) ∧ True) ∧ ¬ (m ≤ k ∧ (((k ≠ w.heap.size ∧ k ≠ w.heap.size + 1) ∧ True) ∧ some k ≠ (Value.slice A2 pre.length c2).ownBlock))) (.slice A2 pre.length c2) pre :=
      Kd.S_mono hRu (fun k hk => ⟨⟨hk.1, trivial⟩, fun h => by have := hk.2; omega⟩)
    have HBX := Aside0.mk hbx; have HRU := Aside0.mk a8; have HBC := Aside0.mk hbc; have HBL := Aside0.mk hbl; have HRV := Aside0.mk a7; (have c7 : (pre.length + 1) * 24 ≤ 140737488355328 := by omega); clear hbx hRu hbc hbl hRv a7 a8
    gi_wp2_with (gi_at_builtin; refine Ev.append_inS kbs w.heap.size rfl _ _ 43 41 (.slice none 0 0) 24 rfl c6 (by kernel_rfl) rfl (by decide) (by decide) (.slice A2 pre.length c2) pre x [.slice A1 x.length c1] (fun k => (k ≠ w.heap.size ∧ k ≠ w.heap.size + 1) ∧ True) _ rfl rfl ⟨_, rfl, HRV.out⟩ (fun k hk => hk.2) ?hfresh HRU.out ?hbase c7 ?_)
    case hfresh =>
      intro k hk; have h1 := blk_lt HBC.out; (have h2 : k ≠ w.heap.size := by omega); (have h3 : k ≠ w.heap.size + 1 := by omega); first | exact ⟨⟨h2, h3⟩, trivial⟩ | exact ⟨h2, h3⟩
    case hbase => omega
    intro v1 w1 a0 a3; obtain ⟨A3, c3, rfl⟩ := Kd.R_slice (Kd.S_R a0); have BX : Boxed W w.heap.size 43 (.slice A2 pre.length c2) := HBX.out; obtain ⟨inner, hown⟩ := Kd.S_own HRU.out; obtain ⟨inner', hown'⟩ := Kd.S_own a0; obtain ⟨b1, b2, b3, b4, b5⟩ := Boxed.appended BX (by decide) hown hsz (Nat.le_refl _) hown' a3; have q1 := b1.cell; have f1 := b1.frozen; have hkB : some (w.heap.size + 1) ≠ (Value.slice A2 pre.length c2).ownBlock := fun e => ((Kd.S_R HRU.out).1 _ e.symm).1.1.2 rfl; have hltB := blk_lt HBC.out
    have hcB : (w1.setCell ⟨w.heap.size, 0, none⟩ (.slice A3 (pre ++ [x]).length c3)).heap[w.heap.size + 1]? = W.heap[w.heap.size + 1]? :=
      (Below.heap_setCell w1 ⟨w.heap.size, 0, none⟩ _ _ (by show w.heap.size + 1 ≠ w.heap.size; omega)).trans ((a3.block _ (by rw [World.size_alloc]; omega) hkB).trans ((below_alloc (Below.refl W.heap.size W) _).block _ hltB))
    have a9 := Kd.S_far a0 (p := ⟨w.heap.size, 0, none⟩) (fun k hk => by first | exact hk.1.1 | exact hk.1) (.slice A3 (pre ++ [x]).length c3); have b0 := Aside0.mk b4; have a1 := Aside0.mk b5; have b6 := Aside0.mk b2; have HCB := Aside0.mk hcB; have b7 := Aside0.mk a9; (have c8 : (pre ++ [x]).length = pre.length + 1 := by simp); rw [c8] at b0 a1 b6 HCB b7; clear b1 b2 b3 b4 b5 hcB a9 a0 a3 hown hown' BX hkB hltB
    gi_wp2
    exact ⟨b0.out, ⟨a1.out.size, fun k hk => hk.elim (fun h => a1.out.block k h) (fun h => by rw [h]; exact HCB.out)⟩, ⟨_, b6.out, Kd.S_mono b7.out (fun k hk => by first | exact hk | exact ⟨hk, trivial⟩)⟩, ⟨cs, HCB.out.trans HBC.out⟩, HBL.out.trans a1.out⟩
  case done =>
    rintro D xs W hD rfl ⟨⟨v, hbx, hR⟩, ⟨cs, hbc⟩, hbl⟩ hK; obtain ⟨A2, c2, rfl⟩ := Kd.R_slice (Kd.S_R hR); have q0 : W.cell? ⟨w.heap.size, 0, none⟩ = some (.slice A2 xs.length c2) := (blk_cell hbx 0).trans rfl; obtain ⟨f, hfR⟩ := hR; have hcl := clone_any (Kd.tag f kbs) ⟨rfl⟩ _ xs.zipIdx w.heap.size _ W hbl.size hfR (by rw [List.length_zipIdx]; omega)
    gi_wp2
    refine ⟨trivial, callsIn_wide.2 (hcl.mono ?_)⟩; rintro e w4 ⟨v', rfl, hR', b8⟩; have hS' : Kd.S kbs 41 w4 w.heap.size (fun _ => True) v' xs := ⟨f, hR'⟩; obtain ⟨A3, c3, rfl⟩ := Kd.R_slice (Kd.S_R hS'); have a2 : w4.heap[D]? = some (.deferred (some [])) := (b8.block D (Array.getElem?_eq_some_iff.1 hK).1).trans hK
    gi_wp2
    refine ⟨by simp, .inl ⟨_, _, rfl, run_takeDeferred a2, ?_⟩⟩; (have hD' : w.heap.size ≤ D := by simp at hD; omega); have hput : ∀ (k : Nat) (cs : Array Value) (q : TypeId), w4.heap[k]? = some (.cells cs q (0, 0)) → (w4.putObj D (.deferred none)).heap[k]? = w4.heap[k]? := fun k cs q hk => World.putObj_heap_other (by rintro rfl; rw [hk] at a2; cases a2); refine ⟨.slice A3 xs.length c3, ?_, ⟨_, rfl, Kd.S_mono (Kd.S_move (Kd.S_bound hS') (fun k hk => by obtain ⟨_, _, _, q, _, cells, hq⟩ := hk; exact hput k _ _ hq)) (fun _ hk => hk.2.1), (hbl.trans (b8.mono hbl.size)).trans (belowK_b (w := w) (Nat.le_refl _) w4 D _ _ hD' a2 rfl rfl)⟩⟩; simp [results, Tryd.f23, go_sem]
end

section
/-! ### damperlaw3_known: function 12 -/
abbrev kbP : Kd Int := Kd.int .u8
/-- The reader's box: what is left, and whether it was cut; what is left lies where it came in. -/
def Rd (g : Nat) (w0 W : World) (bs : List Int) (cut : Bool) : Prop := ∃ A c, W.heap[g]? = some (.cells #[.slice A bs.length c, .bool cut] 87 (0, 0)) ∧ Kd.C kbP w0 A bs.length bs ∧ bs.length ≤ c
/-- Whatever lay but the box lies as it lay. -/
def Kpx (g : Nat) (W W' : World) : Prop := W.heap.size ≤ W'.heap.size ∧ ∀ k, k < W.heap.size → k ≠ g → W'.heap[k]? = W.heap[k]?
def takeC (bs : List Int) (cut : Bool) (n : Nat) : Bool := cut || decide ((bs.length : Int) < (n : Int))
def takeV (bs : List Int) (cut : Bool) (n : Nat) : List Int := if takeC bs cut n then List.replicate n 0 else bs.take n
def takeR (bs : List Int) (cut : Bool) (n : Nat) : List Int := if takeC bs cut n then bs else bs.drop n
theorem takeV_len (bs : List Int) (cut : Bool) (n : Nat) : (takeV bs cut n).length = n := by
  unfold takeV
  split
  · simp
  · rename_i h
    unfold takeC at h; simp at h; rw [List.length_take]; omega
set_option maxHeartbeats 8000000 in
set_option maxRecDepth 100000 in
theorem take_calls (g n : Nat) (w0 W : World) (bs : List Int) (cut : Bool) (hn : n ≤ 1000000) (hg : w0.heap.size ≤ g) (hb : Below w0.heap.size w0 W) (h : Rd g w0 W bs cut) :
    Calls Tryd.prog 77 #[.pointer (some ⟨g, 0, none⟩), .int .i64 (n : Int)] W fun e W' => ∃ A c, e = .returned (.slice A n c) ∧ Kd.C kbP W' A n (takeV bs cut n) ∧ n ≤ c ∧ Rd g w0 W' (takeR bs cut n) (takeC bs cut n) ∧ Kpx g W W' ∧ Below w0.heap.size w0 W' := by
  obtain ⟨A, c, hbx, hC, hc⟩ := h; obtain ⟨i0, a0, hzz⟩ := Option.map_eq_some_iff.1 (show (Tryd.prog.info? 5).map (fun i => (i.zero, i.size, i.bytes)) = some (some (.int .u8 0), 1, 1) by kernel_rfl); simp only [Prod.mk.injEq] at hzz; obtain ⟨a1, a2, a3⟩ := hzz; have c0 : W.cell? ⟨g, 0, none⟩ = some (.slice A bs.length c) := (blk_cell hbx 0).trans rfl; have c1 : W.cell? ⟨g, 1, none⟩ = some (.bool cut) := (blk_cell hbx 1).trans rfl; have f0 := blk_frozen hbx 0; have f1 := blk_frozen hbx 1; have HBX := Aside0.mk hbx; have HCC := Aside0.mk hC; have HB := Aside0.mk hb; clear hbx hC hb; have hmk := fun (W : World) => run_make (P := Tryd.prog) (w := W) 41 5 _ (.int .u8 0) Tryd.underlying41 a0 a1 .i64 .i64 (n : Int) (n : Int) (by omega) (by omega) (by rw [a3]; omega) (by omega); rw [a2] at hmk; simp only [Int.toNat_natCast, Nat.mul_one] at hmk; have hgW := blk_lt HBX.out
  have HKC : ∀ (i j : Nat) (u v : Value) (A : Option Addr) (l : List Int), Kd.C kbP w0 A n l → Kd.C kbP ((W.setCell ⟨g, i, none⟩ u).setCell ⟨g, j, none⟩ v) A n l := fun i j u v A l h => by
    obtain rfl : l.length = n := h.1; exact Ev.C_keep_ h (fun k hk => ((HB.out.setCell (p := ⟨g, i, none⟩) hg u).setCell (p := ⟨g, j, none⟩) hg v).block k hk)
  have HBLK : ∀ (v : Value) (b : Bool), ((W.setCell ⟨g, 1, none⟩ (.bool b)).setCell ⟨g, 0, none⟩ v).heap[g]? = some (.cells #[v, .bool b] 87 (0, 0)) := fun v b => blk_set (blk_set HBX.out 1 (.bool b)) 0 v
  have HKP : ∀ (i j : Nat) (u v : Value), Kpx g W ((W.setCell ⟨g, i, none⟩ u).setCell ⟨g, j, none⟩ v) := fun i j u v =>
    ⟨by simp, fun k _ hk => (Below.heap_setCell _ ⟨g, j, none⟩ v k hk).trans (Below.heap_setCell _ ⟨g, i, none⟩ u k hk)⟩
  have HBB : ∀ (i j : Nat) (u v : Value), Below w0.heap.size w0 ((W.setCell ⟨g, i, none⟩ u).setCell ⟨g, j, none⟩ v) := fun i j u v =>
    (HB.out.setCell (p := ⟨g, i, none⟩) hg u).setCell (p := ⟨g, j, none⟩) hg v
  have HFin : ∀ (W' : World), W' = (W.setCell ⟨g, 1, none⟩ (.bool true)).alloc (.cells (madeCells #[.int .u8 0] n) 5) → takeC bs cut n = true → ∃ A c, Ending.returned (.slice (some ⟨W.heap.size, 0, none⟩) n n) = .returned (.slice A n c) ∧ Kd.C kbP W' A n (takeV bs cut n) ∧ n ≤ c ∧ Rd g w0 W' (takeR bs cut n) (takeC bs cut n) ∧ Kpx g W W' ∧ Below w0.heap.size w0 W' := by
    rintro W' rfl hT; (have hV : takeV bs cut n = List.replicate n 0 := by unfold takeV; rw [hT]; rfl); have hR : takeR bs cut n = bs := by unfold takeR; rw [hT]; rfl
    have hrow : Kd.C kbP ((W.setCell ⟨g, 1, none⟩ (.bool true)).alloc (.cells (madeCells #[.int .u8 0] n) 5)) (some ⟨W.heap.size, 0, none⟩) (List.replicate n (0 : Int)).length (List.replicate n 0) := by
      refine Ev.ints_row (cs := madeCells #[.int .u8 0] n) (t := 5) _ ?_ ?_ (by simp; omega)
      · have h1 := blk_new (W.setCell ⟨g, 1, none⟩ (.bool true)) (.cells (madeCells #[.int .u8 0] n) 5 (0, 0))
        rwa [World.size_setCell] at h1
      · rw [List.length_replicate, List.take_of_length_le (by simp [madeCells])]; apply List.ext_getElem
        · simp [madeCells]
        · intro i h1 h2; simp [madeCells, Nat.mod_one]
    refine ⟨_, _, rfl, ?_, Nat.le_refl _, ?_, ?_, ?_⟩
    · rw [hV]; simpa using hrow
    · rw [hR, hT]; exact ⟨A, c, blk_alloc (blk_set HBX.out 1 (.bool true)) _, HCC.out, hc⟩
    · exact ⟨by simp, fun k hk hkg => ((below_alloc (Below.refl (W.setCell ⟨g, 1, none⟩ (.bool true)).heap.size (W.setCell ⟨g, 1, none⟩ (.bool true))) _).block k (by simpa using hk)).trans (Below.heap_setCell _ ⟨g, 1, none⟩ _ k hkg)⟩
    · exact below_alloc (HB.out.setCell (p := ⟨g, 1, none⟩) hg _) _
  cases cut with
  | true =>
    go_enter Tryd.func77, Tryd.ntmps77; go_wp2_with fail; go_ret; exact HFin _ rfl (by simp [takeC])
  | false =>
    by_cases hlt : (bs.length : Int) < (n : Int)
    · have d1 : decide ((bs.length : Int) < (n : Int)) = true := decide_eq_true hlt; go_enter Tryd.func77, Tryd.ntmps77; go_wp2_with fail; go_ret; exact HFin _ rfl (by simp [takeC, hlt])
    · have d1 : decide ((bs.length : Int) < (n : Int)) = false := decide_eq_false hlt; have n1 : ((n : Int) ≤ (bs.length : Int)) = True := eq_true (by omega); have n2 : ((n : Int) ≤ (c : Int)) = True := eq_true (by omega); go_enter Tryd.func77, Tryd.ntmps77; go_wp2_with fail
      all_goals go_ret
      all_goals have hT : takeC bs false n = false := by unfold takeC; rw [d1]; rfl
      all_goals have hV : takeV bs false n = bs.take n := by unfold takeV; rw [hT]; rfl
      all_goals have hR : takeR bs false n = bs.drop n := by unfold takeR; rw [hT]; rfl
      all_goals have hnl : n ≤ bs.length := by omega
      all_goals have hCt := Kd.C_take HCC.out hnl
      all_goals have hCd := Kd.C_drop HCC.out hnl hc
      all_goals have hlen : (bs.take n).length = n := by rw [List.length_take]; omega
      all_goals rw [hlen] at hCt
      · subst h; rw [if_pos rfl] at hCd; refine ⟨A, _, rfl, ?_, Nat.le_refl _, ?_, ?_, ?_⟩
        · rw [hV]; exact HKC _ _ _ _ _ _ hCt
        · rw [hT, hR]; exact ⟨A, 0, by rw [List.length_drop]; exact HBLK _ _, hCd, by rw [List.length_drop]; omega⟩
        · exact HKP _ _ _ _
        · exact HBB _ _ _ _
      · rw [if_neg h] at hCd
        have e : (fun x : Addr => x.add (n * kbP.sz)) = (fun x => x.add n) := by
          funext x
          show x.add (n * 1) = _; rw [Nat.mul_one]
        rw [e] at hCd; refine ⟨A, _, rfl, ?_, by omega, ?_, ?_, ?_⟩
        · rw [hV]; exact HKC _ _ _ _ _ _ hCt
        · rw [hT, hR]; exact ⟨A.map (fun x => x.add n), c - n, by rw [List.length_drop]; exact HBLK _ _, hCd, by rw [List.length_drop]; omega⟩
        · exact HKP _ _ _ _
        · exact HBB _ _ _ _
/-- A number out of a row, its highest place first. -/
def numV : List Int → Int → Int
  | [], a => a
  | x :: l, a => numV l (Go.bits .or .i64 (wrap64 (a * 256)) (wrap64 x))
theorem numV_step (l : List Int) (a x : Int) (h0 : 0 ≤ x) (h1 : x < (l.length : Int)) : numV (l.drop x.toNat) a = numV (l.drop (x + 1).toNat) (Go.bits .or .i64 (wrap64 (a * 256)) (wrap64 (rd l x))) := by
  have hn : x.toNat < l.length := by omega
  have e : rd l x = l[x.toNat] := by
    show l.getD x.toNat 0 = _; rw [List.getD_eq_getElem?_getD, List.getElem?_eq_getElem hn, Option.getD_some]
  rw [e, show (x + 1).toNat = x.toNat + 1 by omega, List.drop_eq_getElem_cons hn]; rfl
theorem kpx_refl (g : Nat) (W : World) : Kpx g W W := ⟨Nat.le_refl _, fun _ _ _ => rfl⟩
theorem kpx_trans {g : Nat} {X Y Z : World} (h : Kpx g X Y) (k : Kpx g Y Z) : Kpx g X Z := ⟨Nat.le_trans h.1 k.1, fun i hi hg => (k.2 i (Nat.lt_of_lt_of_le hi h.1) hg).trans (h.2 i hi hg)⟩
set_option maxHeartbeats 8000000 in
set_option maxRecDepth 100000 in
theorem number_calls (g n : Nat) (w0 W : World) (bs : List Int) (cut : Bool) (hn : n ≤ 1000000) (hg : w0.heap.size ≤ g) (hb : Below w0.heap.size w0 W) (h : Rd g w0 W bs cut) :
    Calls Tryd.prog 53 #[.pointer (some ⟨g, 0, none⟩), .int .i64 (n : Int)] W fun e W' => e = .returned (.int .i64 (numV (takeV bs cut n) 0)) ∧ Rd g w0 W' (takeR bs cut n) (takeC bs cut n) ∧ Kpx g W W' ∧ Below w0.heap.size w0 W' := by
  have hcl := take_calls g n w0 W bs cut hn hg hb h; have hvl := takeV_len bs cut n; go_enter Tryd.func53, Tryd.ntmps53; go_wp2_with fail; refine hcl.mono ?_; rintro e W1 ⟨A, c, rfl, hC, hc, hR, hK, hB⟩; obtain ⟨l, hl⟩ : ∃ l, takeV bs cut n = l := ⟨_, rfl⟩; rw [hl] at hC hvl; subst hvl; have HC := Aside0.mk hC; have HR := Aside0.mk hR; have HK := Aside0.mk hK; have HB := Aside0.mk hB; clear hC hR hK hB hcl h hb; go_wp2_with fail; go_loopw [5, 12] (fun v5 a0 wr => ∃ a x : Int, 0 ≤ x ∧ x ≤ (l.length : Int) ∧ v5 = .int .i64 a ∧ a0 = .int .i64 x ∧ Aside0 (numV (l.drop x.toNat) a = numV l 0) ∧ W1 = wr) (fun v5 a0 wr => l.length - (intOf a0).toNat)
  case atStart => exact ⟨0, 0, by omega, by omega, rfl, rfl, ⟨by simp⟩, rfl⟩
  case round =>
    obtain ⟨a, x, a1, hx1, rfl, rfl, HI, rfl⟩ := hrel; by_cases hlt : x < (l.length : Int)
    · have hst := numV_step l a x a1 hlt; rw [HI.out] at hst; obtain ⟨ad, e, q0⟩ := Kd.at_int HC.out x a1 hlt; subst e; (have a2 : wrap64 (x + 1) = x + 1 := by unfold wrap64; omega); have hx3 := eq_true a1; have hx4 := eq_true hlt; have hdec : decide (x < (l.length : Int)) = true := decide_eq_true hlt; generalize rd l x = y at q0 hst; have HST := Aside0.mk hst; clear hst; go_wp2_with fail; go_roundw
      case rel => exact ⟨_, x + 1, by omega, by omega, rfl, by first | rfl | rw [a2], ⟨HST.out.symm⟩, trivial⟩
      case measure => simp [intOf]; omega
    · have hen := HI.out; rw [List.drop_eq_nil_of_le (by omega), numV] at hen; have hdec : decide (x < (l.length : Int)) = false := decide_eq_false hlt; have a3 := eq_false hlt; go_wp2_with fail; go_ret; exact ⟨by first | rfl | (show Ending.returned (.int .i64 (numV l 0)) = _; rw [hl]), HR.out, HK.out, HB.out⟩
set_option maxHeartbeats 1600000 in
set_option maxRecDepth 100000 in
/-- Bytes that are none end too early. -/
theorem parse_none (A : Option Addr) (c : Nat) (w : World) (hC : Kd.C kbP w A ([] : List Int).length []) (hc : ([] : List Int).length ≤ c) :
    Calls Tryd.prog 20 #[.slice A 0 c] w fun e W' => e = .returned (.tuple #[.agg (eV 0 ⟨#[]⟩ ⟨#[]⟩ 0 0 ⟨#[]⟩ 0 0 0 0 0 ⟨#[]⟩ ⟨#[]⟩ (.slice none 0 0) 0), .int .i64 10]) ∧ Below w.heap.size w W' := by
  have hnum := fun (W : World) hb hR => number_calls (w.heap.size + 1) 1 w W [] false (by decide) (by omega) hb hR; have hsh := fun (W : World) => event_shape.calls 20 0 false false false false false false false W rfl; go_enter Tryd.func20, Tryd.ntmps20; go_wp2_with fail; have a2 : ((w.alloc (.cells (eV 0 ⟨#[]⟩ ⟨#[]⟩ 0 0 ⟨#[]⟩ 0 0 0 0 0 ⟨#[]⟩ ⟨#[]⟩ (.slice none 0 0) 0) 28)).alloc (.cells #[.slice A 0 c, .bool false] 87)).heap[w.heap.size]? = some (.cells (eV 0 ⟨#[]⟩ ⟨#[]⟩ 0 0 ⟨#[]⟩ 0 0 0 0 0 ⟨#[]⟩ ⟨#[]⟩ (.slice none 0 0) 0) 28 (0, 0)) := blk_alloc (blk_new _ _) _
  have a3 : ((w.alloc (.cells (eV 0 ⟨#[]⟩ ⟨#[]⟩ 0 0 ⟨#[]⟩ 0 0 0 0 0 ⟨#[]⟩ ⟨#[]⟩ (.slice none 0 0) 0) 28)).alloc (.cells #[.slice A 0 c, .bool false] 87)).heap[w.heap.size + 1]? = some (.cells #[.slice A 0 c, .bool false] 87 (0, 0)) := by
    have h1 := blk_new (w.alloc (.cells (eV 0 ⟨#[]⟩ ⟨#[]⟩ 0 0 ⟨#[]⟩ 0 0 0 0 0 ⟨#[]⟩ ⟨#[]⟩ (.slice none 0 0) 0) 28)) (.cells #[.slice A 0 c, .bool false] 87 (0, 0))
    rwa [World.size_alloc] at h1
  refine (hnum _ (below_alloc (below_alloc (Below.refl _ _) _) _) ⟨A, c, a3, hC, hc⟩).mono ?_; rintro e W1 ⟨rfl, ⟨A1, c1, hbx, a8, a9⟩, a4, a5⟩; have a6 := (a4.2 w.heap.size (by simp; omega) (by omega)).trans a2; (have hv : numV (takeV [] false 1) 0 = 0 := by decide +kernel); (have hr : takeR [] false 1 = [] := by decide); (have hk : takeC [] false 1 = true := by decide); rw [hk, hr] at hbx; rw [hv]; have b0 := Aside0.mk a6; have HBX := Aside0.mk hbx; have b1 := Aside0.mk a5; clear a6 hbx a5 a4 a8 a9 a2 a3 hnum hv hr hk; go_wp2_with fail; refine (hsh _).mono ?_; rintro e W2 ⟨rfl, a1⟩; have a7 := Aside0.mk (blk_below (blk_alloc HBX.out _) a1); have m0 : ∀ o : Obj, (W2.alloc o).cell? ⟨w.heap.size + 1, 0, none⟩ = some (.slice A1 0 c1) := fun o => (blk_cell (blk_alloc a7.out o) 0).trans rfl; have m1 : ∀ o : Obj, (W2.alloc o).cell? ⟨w.heap.size + 1, 1, none⟩ = some (.bool true) := fun o => (blk_cell (blk_alloc a7.out o) 1).trans rfl; have a0 := Aside0.mk (blk_below (blk_alloc b0.out _) a1); have b2 := Aside0.mk (below_step (below_alloc b1.out _) a1); clear a1; have e0 : ∀ o : Obj, (W2.alloc o).cell? ⟨w.heap.size, 0, none⟩ = some (.int .i64 0) := fun o => (blk_cell (blk_alloc a0.out o) 0).trans rfl; have fe0 : ∀ o : Obj, (W2.alloc o).frozen? ⟨w.heap.size, 0, none⟩ = false := fun o => blk_frozen (blk_alloc a0.out o) 0; have e1 : ∀ o : Obj, (W2.alloc o).cell? ⟨w.heap.size, 1, none⟩ = some (.string ⟨#[]⟩) := fun o => (blk_cell (blk_alloc a0.out o) 1).trans rfl; have fe1 : ∀ o : Obj, (W2.alloc o).frozen? ⟨w.heap.size, 1, none⟩ = false := fun o => blk_frozen (blk_alloc a0.out o) 1; have e2 : ∀ o : Obj, (W2.alloc o).cell? ⟨w.heap.size, 2, none⟩ = some (.string ⟨#[]⟩) := fun o => (blk_cell (blk_alloc a0.out o) 2).trans rfl; have fe2 : ∀ o : Obj, (W2.alloc o).frozen? ⟨w.heap.size, 2, none⟩ = false := fun o => blk_frozen (blk_alloc a0.out o) 2; have e3 : ∀ o : Obj, (W2.alloc o).cell? ⟨w.heap.size, 3, none⟩ = some (.int .i64 0) := fun o => (blk_cell (blk_alloc a0.out o) 3).trans rfl; have fe3 : ∀ o : Obj, (W2.alloc o).frozen? ⟨w.heap.size, 3, none⟩ = false := fun o => blk_frozen (blk_alloc a0.out o) 3; have e4 : ∀ o : Obj, (W2.alloc o).cell? ⟨w.heap.size, 4, none⟩ = some (.int .i64 0) := fun o => (blk_cell (blk_alloc a0.out o) 4).trans rfl; have fe4 : ∀ o : Obj, (W2.alloc o).frozen? ⟨w.heap.size, 4, none⟩ = false := fun o => blk_frozen (blk_alloc a0.out o) 4; have e5 : ∀ o : Obj, (W2.alloc o).cell? ⟨w.heap.size, 5, none⟩ = some (.string ⟨#[]⟩) := fun o => (blk_cell (blk_alloc a0.out o) 5).trans rfl; have fe5 : ∀ o : Obj, (W2.alloc o).frozen? ⟨w.heap.size, 5, none⟩ = false := fun o => blk_frozen (blk_alloc a0.out o) 5; have e6 : ∀ o : Obj, (W2.alloc o).cell? ⟨w.heap.size, 6, none⟩ = some (.int .i64 0) := fun o => (blk_cell (blk_alloc a0.out o) 6).trans rfl; have fe6 : ∀ o : Obj, (W2.alloc o).frozen? ⟨w.heap.size, 6, none⟩ = false := fun o => blk_frozen (blk_alloc a0.out o) 6; have e7 : ∀ o : Obj, (W2.alloc o).cell? ⟨w.heap.size, 7, none⟩ = some (.int .i64 0) := fun o => (blk_cell (blk_alloc a0.out o) 7).trans rfl; have fe7 : ∀ o : Obj, (W2.alloc o).frozen? ⟨w.heap.size, 7, none⟩ = false := fun o => blk_frozen (blk_alloc a0.out o) 7; have e8 : ∀ o : Obj, (W2.alloc o).cell? ⟨w.heap.size, 8, none⟩ = some (.int .i64 0) := fun o => (blk_cell (blk_alloc a0.out o) 8).trans rfl; have fe8 : ∀ o : Obj, (W2.alloc o).frozen? ⟨w.heap.size, 8, none⟩ = false := fun o => blk_frozen (blk_alloc a0.out o) 8; have e9 : ∀ o : Obj, (W2.alloc o).cell? ⟨w.heap.size, 9, none⟩ = some (.int .i64 0) := fun o => (blk_cell (blk_alloc a0.out o) 9).trans rfl; have fe9 : ∀ o : Obj, (W2.alloc o).frozen? ⟨w.heap.size, 9, none⟩ = false := fun o => blk_frozen (blk_alloc a0.out o) 9; have e10 : ∀ o : Obj, (W2.alloc o).cell? ⟨w.heap.size, 10, none⟩ = some (.int .i64 0) := fun o => (blk_cell (blk_alloc a0.out o) 10).trans rfl; have fe10 : ∀ o : Obj, (W2.alloc o).frozen? ⟨w.heap.size, 10, none⟩ = false := fun o => blk_frozen (blk_alloc a0.out o) 10; have e11 : ∀ o : Obj, (W2.alloc o).cell? ⟨w.heap.size, 11, none⟩ = some (.string ⟨#[]⟩) := fun o => (blk_cell (blk_alloc a0.out o) 11).trans rfl; have fe11 : ∀ o : Obj, (W2.alloc o).frozen? ⟨w.heap.size, 11, none⟩ = false := fun o => blk_frozen (blk_alloc a0.out o) 11; have e12 : ∀ o : Obj, (W2.alloc o).cell? ⟨w.heap.size, 12, none⟩ = some (.string ⟨#[]⟩) := fun o => (blk_cell (blk_alloc a0.out o) 12).trans rfl; have fe12 : ∀ o : Obj, (W2.alloc o).frozen? ⟨w.heap.size, 12, none⟩ = false := fun o => blk_frozen (blk_alloc a0.out o) 12; have e13 : ∀ o : Obj, (W2.alloc o).cell? ⟨w.heap.size, 13, none⟩ = some (.slice none 0 0) := fun o => (blk_cell (blk_alloc a0.out o) 13).trans rfl; have fe13 : ∀ o : Obj, (W2.alloc o).frozen? ⟨w.heap.size, 13, none⟩ = false := fun o => blk_frozen (blk_alloc a0.out o) 13; have e14 : ∀ o : Obj, (W2.alloc o).cell? ⟨w.heap.size, 14, none⟩ = some (.int .i64 0) := fun o => (blk_cell (blk_alloc a0.out o) 14).trans rfl; have fe14 : ∀ o : Obj, (W2.alloc o).frozen? ⟨w.heap.size, 14, none⟩ = false := fun o => blk_frozen (blk_alloc a0.out o) 14; go_wp2_with fail; refine bodyPost_ret (results_ct rfl _ _ w.heap.size 28 (eV 0 ⟨#[]⟩ ⟨#[]⟩ 0 0 ⟨#[]⟩ 0 0 0 0 0 ⟨#[]⟩ ⟨#[]⟩ (.slice none 0 0) 0) (0, 0) _ rfl (by refine blk_put (cs := (eV 0 ⟨#[]⟩ ⟨#[]⟩ 0 0 ⟨#[]⟩ 0 0 0 0 0 ⟨#[]⟩ ⟨#[]⟩ (.slice none 0 0) 0)) ?_ 14 _ rfl; refine blk_put (cs := (eV 0 ⟨#[]⟩ ⟨#[]⟩ 0 0 ⟨#[]⟩ 0 0 0 0 0 ⟨#[]⟩ ⟨#[]⟩ (.slice none 0 0) 0)) ?_ 13 _ rfl; refine blk_put (cs := (eV 0 ⟨#[]⟩ ⟨#[]⟩ 0 0 ⟨#[]⟩ 0 0 0 0 0 ⟨#[]⟩ ⟨#[]⟩ (.slice none 0 0) 0)) ?_ 12 _ rfl; refine blk_put (cs := (eV 0 ⟨#[]⟩ ⟨#[]⟩ 0 0 ⟨#[]⟩ 0 0 0 0 0 ⟨#[]⟩ ⟨#[]⟩ (.slice none 0 0) 0)) ?_ 11 _ rfl; refine blk_put (cs := (eV 0 ⟨#[]⟩ ⟨#[]⟩ 0 0 ⟨#[]⟩ 0 0 0 0 0 ⟨#[]⟩ ⟨#[]⟩ (.slice none 0 0) 0)) ?_ 10 _ rfl; refine blk_put (cs := (eV 0 ⟨#[]⟩ ⟨#[]⟩ 0 0 ⟨#[]⟩ 0 0 0 0 0 ⟨#[]⟩ ⟨#[]⟩ (.slice none 0 0) 0)) ?_ 9 _ rfl; refine blk_put (cs := (eV 0 ⟨#[]⟩ ⟨#[]⟩ 0 0 ⟨#[]⟩ 0 0 0 0 0 ⟨#[]⟩ ⟨#[]⟩ (.slice none 0 0) 0)) ?_ 8 _ rfl; refine blk_put (cs := (eV 0 ⟨#[]⟩ ⟨#[]⟩ 0 0 ⟨#[]⟩ 0 0 0 0 0 ⟨#[]⟩ ⟨#[]⟩ (.slice none 0 0) 0)) ?_ 7 _ rfl; refine blk_put (cs := (eV 0 ⟨#[]⟩ ⟨#[]⟩ 0 0 ⟨#[]⟩ 0 0 0 0 0 ⟨#[]⟩ ⟨#[]⟩ (.slice none 0 0) 0)) ?_ 6 _ rfl; refine blk_put (cs := (eV 0 ⟨#[]⟩ ⟨#[]⟩ 0 0 ⟨#[]⟩ 0 0 0 0 0 ⟨#[]⟩ ⟨#[]⟩ (.slice none 0 0) 0)) ?_ 5 _ rfl; refine blk_put (cs := (eV 0 ⟨#[]⟩ ⟨#[]⟩ 0 0 ⟨#[]⟩ 0 0 0 0 0 ⟨#[]⟩ ⟨#[]⟩ (.slice none 0 0) 0)) ?_ 4 _ rfl; refine blk_put (cs := (eV 0 ⟨#[]⟩ ⟨#[]⟩ 0 0 ⟨#[]⟩ 0 0 0 0 0 ⟨#[]⟩ ⟨#[]⟩ (.slice none 0 0) 0)) ?_ 3 _ rfl; refine blk_put (cs := (eV 0 ⟨#[]⟩ ⟨#[]⟩ 0 0 ⟨#[]⟩ 0 0 0 0 0 ⟨#[]⟩ ⟨#[]⟩ (.slice none 0 0) 0)) ?_ 2 _ rfl; refine blk_put (cs := (eV 0 ⟨#[]⟩ ⟨#[]⟩ 0 0 ⟨#[]⟩ 0 0 0 0 0 ⟨#[]⟩ ⟨#[]⟩ (.slice none 0 0) 0)) ?_ 1 _ rfl; refine blk_put (cs := (eV 0 ⟨#[]⟩ ⟨#[]⟩ 0 0 ⟨#[]⟩ 0 0 0 0 0 ⟨#[]⟩ ⟨#[]⟩ (.slice none 0 0) 0)) ?_ 0 _ rfl; exact blk_alloc a0.out _) Tryd.underlying28 rfl (by kernel_rfl)) rfl ?_; exact ⟨rfl, by refine Below.setCell (p := ⟨w.heap.size, 14, none⟩) ?_ (Nat.le_refl _) _; refine Below.setCell (p := ⟨w.heap.size, 13, none⟩) ?_ (Nat.le_refl _) _; refine Below.setCell (p := ⟨w.heap.size, 12, none⟩) ?_ (Nat.le_refl _) _; refine Below.setCell (p := ⟨w.heap.size, 11, none⟩) ?_ (Nat.le_refl _) _; refine Below.setCell (p := ⟨w.heap.size, 10, none⟩) ?_ (Nat.le_refl _) _; refine Below.setCell (p := ⟨w.heap.size, 9, none⟩) ?_ (Nat.le_refl _) _; refine Below.setCell (p := ⟨w.heap.size, 8, none⟩) ?_ (Nat.le_refl _) _; refine Below.setCell (p := ⟨w.heap.size, 7, none⟩) ?_ (Nat.le_refl _) _; refine Below.setCell (p := ⟨w.heap.size, 6, none⟩) ?_ (Nat.le_refl _) _; refine Below.setCell (p := ⟨w.heap.size, 5, none⟩) ?_ (Nat.le_refl _) _; refine Below.setCell (p := ⟨w.heap.size, 4, none⟩) ?_ (Nat.le_refl _) _; refine Below.setCell (p := ⟨w.heap.size, 3, none⟩) ?_ (Nat.le_refl _) _; refine Below.setCell (p := ⟨w.heap.size, 2, none⟩) ?_ (Nat.le_refl _) _; refine Below.setCell (p := ⟨w.heap.size, 1, none⟩) ?_ (Nat.le_refl _) _; refine Below.setCell (p := ⟨w.heap.size, 0, none⟩) ?_ (Nat.le_refl _) _; exact below_alloc b2.out _⟩
set_option maxHeartbeats 1600000 in
set_option maxRecDepth 100000 in
/-- The byte 9 alone is a tick. -/
theorem parse_nine (A : Option Addr) (c : Nat) (w : World) (hLd_ : Aside0 (LaidW w)) (hC : Kd.C kbP w A ([9] : List Int).length [9]) (hc : ([9] : List Int).length ≤ c) :
    Calls Tryd.prog 20 #[.slice A 1 c] w fun e W' => e = .returned (.tuple #[.agg (eV 9 ⟨#[]⟩ ⟨#[]⟩ 0 0 ⟨#[]⟩ 0 0 0 0 0 ⟨#[]⟩ ⟨#[]⟩ (.slice none 0 0) 0), .int .i64 0]) ∧ Below w.heap.size w W' := by
  have hnum := fun (W : World) hb hR => number_calls (w.heap.size + 1) 1 w W [9] false (by decide) (by omega) hb hR; have hsh := fun (W : World) => event_shape.calls 20 9 false false false false false false true W rfl; have hck := fun (W : World) (hL : Aside0 (LaidW W)) => event_Check.calls 20 9 ⟨#[]⟩ ⟨#[]⟩ 0 0 ⟨#[]⟩ 0 0 0 0 0 ⟨#[]⟩ ⟨#[]⟩ none 0 [] 0 0 W hL (Kd.C_nil _ _) (Nat.le_refl _) (by decide +kernel); go_enter Tryd.func20, Tryd.ntmps20; go_wp2_with fail; have a5 : ((w.alloc (.cells (eV 0 ⟨#[]⟩ ⟨#[]⟩ 0 0 ⟨#[]⟩ 0 0 0 0 0 ⟨#[]⟩ ⟨#[]⟩ (.slice none 0 0) 0) 28)).alloc (.cells #[.slice A 1 c, .bool false] 87)).heap[w.heap.size]? = some (.cells (eV 0 ⟨#[]⟩ ⟨#[]⟩ 0 0 ⟨#[]⟩ 0 0 0 0 0 ⟨#[]⟩ ⟨#[]⟩ (.slice none 0 0) 0) 28 (0, 0)) := blk_alloc (blk_new _ _) _
  have a6 : ((w.alloc (.cells (eV 0 ⟨#[]⟩ ⟨#[]⟩ 0 0 ⟨#[]⟩ 0 0 0 0 0 ⟨#[]⟩ ⟨#[]⟩ (.slice none 0 0) 0) 28)).alloc (.cells #[.slice A 1 c, .bool false] 87)).heap[w.heap.size + 1]? = some (.cells #[.slice A 1 c, .bool false] 87 (0, 0)) := by
    have h1 := blk_new (w.alloc (.cells (eV 0 ⟨#[]⟩ ⟨#[]⟩ 0 0 ⟨#[]⟩ 0 0 0 0 0 ⟨#[]⟩ ⟨#[]⟩ (.slice none 0 0) 0) 28)) (.cells #[.slice A 1 c, .bool false] 87 (0, 0))
    rwa [World.size_alloc] at h1
  refine (hnum _ (below_alloc (below_alloc (Below.refl _ _) _) _) ⟨A, c, a6, hC, hc⟩).mono ?_; rintro e W1 ⟨rfl, ⟨A1, c1, hbx, b8, b9⟩, a7, a8⟩; have a9 := (a7.2 w.heap.size (by simp; omega) (by omega)).trans a5; (have hv : numV (takeV [9] false 1) 0 = 9 := by decide +kernel); (have hr : takeR [9] false 1 = [] := by decide); (have hk : takeC [9] false 1 = false := by decide); rw [hk, hr] at hbx; rw [hv]; have c0 := Aside0.mk a9; have HBX := Aside0.mk hbx; have c2 := Aside0.mk a8; clear a9 hbx a8 a7 b8 b9 a5 a6 hnum hv hr hk; go_wp2_with fail; refine (hsh _).mono ?_; rintro e W2 ⟨rfl, a3⟩; have b0 := Aside0.mk (blk_below (blk_alloc HBX.out _) a3); have m0 : ∀ o : Obj, (W2.alloc o).cell? ⟨w.heap.size + 1, 0, none⟩ = some (.slice A1 0 c1) := fun o => (blk_cell (blk_alloc b0.out o) 0).trans rfl; have m1 : ∀ o : Obj, (W2.alloc o).cell? ⟨w.heap.size + 1, 1, none⟩ = some (.bool false) := fun o => (blk_cell (blk_alloc b0.out o) 1).trans rfl; have c3 := Aside0.mk (blk_below (blk_alloc c0.out _) a3); have b1 : W2.heap[W1.heap.size]? = some (.cells (eV 9 ⟨#[]⟩ ⟨#[]⟩ 0 0 ⟨#[]⟩ 0 0 0 0 0 ⟨#[]⟩ ⟨#[]⟩ (.slice none 0 0) 0) 28 (0, 0)) := blk_below (blk_new _ _) a3; have a1 := Aside0.mk b1; have b2 := Aside0.mk (below_step (below_alloc c2.out _) a3); clear a3 b1; have v0 : ∀ o : Obj, (W2.alloc o).cell? ⟨W1.heap.size, 0, none⟩ = some (.int .i64 9) := fun o => (blk_cell (blk_alloc a1.out o) 0).trans rfl; have v1 : ∀ o : Obj, (W2.alloc o).cell? ⟨W1.heap.size, 1, none⟩ = some (.string ⟨#[]⟩) := fun o => (blk_cell (blk_alloc a1.out o) 1).trans rfl; have v2 : ∀ o : Obj, (W2.alloc o).cell? ⟨W1.heap.size, 2, none⟩ = some (.string ⟨#[]⟩) := fun o => (blk_cell (blk_alloc a1.out o) 2).trans rfl; have v3 : ∀ o : Obj, (W2.alloc o).cell? ⟨W1.heap.size, 3, none⟩ = some (.int .i64 0) := fun o => (blk_cell (blk_alloc a1.out o) 3).trans rfl; have v4 : ∀ o : Obj, (W2.alloc o).cell? ⟨W1.heap.size, 4, none⟩ = some (.int .i64 0) := fun o => (blk_cell (blk_alloc a1.out o) 4).trans rfl; have v5 : ∀ o : Obj, (W2.alloc o).cell? ⟨W1.heap.size, 5, none⟩ = some (.string ⟨#[]⟩) := fun o => (blk_cell (blk_alloc a1.out o) 5).trans rfl; have v6 : ∀ o : Obj, (W2.alloc o).cell? ⟨W1.heap.size, 6, none⟩ = some (.int .i64 0) := fun o => (blk_cell (blk_alloc a1.out o) 6).trans rfl; have v7 : ∀ o : Obj, (W2.alloc o).cell? ⟨W1.heap.size, 7, none⟩ = some (.int .i64 0) := fun o => (blk_cell (blk_alloc a1.out o) 7).trans rfl; have v8 : ∀ o : Obj, (W2.alloc o).cell? ⟨W1.heap.size, 8, none⟩ = some (.int .i64 0) := fun o => (blk_cell (blk_alloc a1.out o) 8).trans rfl; have v9 : ∀ o : Obj, (W2.alloc o).cell? ⟨W1.heap.size, 9, none⟩ = some (.int .i64 0) := fun o => (blk_cell (blk_alloc a1.out o) 9).trans rfl; have b3 : ∀ o : Obj, (W2.alloc o).cell? ⟨W1.heap.size, 10, none⟩ = some (.int .i64 0) := fun o => (blk_cell (blk_alloc a1.out o) 10).trans rfl; have b4 : ∀ o : Obj, (W2.alloc o).cell? ⟨W1.heap.size, 11, none⟩ = some (.string ⟨#[]⟩) := fun o => (blk_cell (blk_alloc a1.out o) 11).trans rfl; have b5 : ∀ o : Obj, (W2.alloc o).cell? ⟨W1.heap.size, 12, none⟩ = some (.string ⟨#[]⟩) := fun o => (blk_cell (blk_alloc a1.out o) 12).trans rfl; have b6 : ∀ o : Obj, (W2.alloc o).cell? ⟨W1.heap.size, 13, none⟩ = some (.slice none 0 0) := fun o => (blk_cell (blk_alloc a1.out o) 13).trans rfl; have b7 : ∀ o : Obj, (W2.alloc o).cell? ⟨W1.heap.size, 14, none⟩ = some (.int .i64 0) := fun o => (blk_cell (blk_alloc a1.out o) 14).trans rfl; go_wp2_with fail; refine (hck _ ⟨hLd_.out.below (below_alloc b2.out _)⟩).mono ?_; rintro e W3 ⟨rfl, a4⟩; have a0 := Aside0.mk (blk_below (blk_alloc c3.out _) a4); have a2 := Aside0.mk (blk_below (blk_alloc a1.out _) a4); have c4 := Aside0.mk (below_step (below_alloc b2.out _) a4); clear a4 m0 m1 v0 v1 v2 v3 v4 v5 v6 v7 v8 v9 b3 b4 b5 b6 b7; have e0 : W3.cell? ⟨w.heap.size, 0, none⟩ = some (.int .i64 0) := (blk_cell a0.out 0).trans rfl; have fe0 := blk_frozen a0.out 0; have e1 : W3.cell? ⟨w.heap.size, 1, none⟩ = some (.string ⟨#[]⟩) := (blk_cell a0.out 1).trans rfl; have fe1 := blk_frozen a0.out 1; have e2 : W3.cell? ⟨w.heap.size, 2, none⟩ = some (.string ⟨#[]⟩) := (blk_cell a0.out 2).trans rfl; have fe2 := blk_frozen a0.out 2; have e3 : W3.cell? ⟨w.heap.size, 3, none⟩ = some (.int .i64 0) := (blk_cell a0.out 3).trans rfl; have fe3 := blk_frozen a0.out 3; have e4 : W3.cell? ⟨w.heap.size, 4, none⟩ = some (.int .i64 0) := (blk_cell a0.out 4).trans rfl; have fe4 := blk_frozen a0.out 4; have e5 : W3.cell? ⟨w.heap.size, 5, none⟩ = some (.string ⟨#[]⟩) := (blk_cell a0.out 5).trans rfl; have fe5 := blk_frozen a0.out 5; have e6 : W3.cell? ⟨w.heap.size, 6, none⟩ = some (.int .i64 0) := (blk_cell a0.out 6).trans rfl; have fe6 := blk_frozen a0.out 6; have e7 : W3.cell? ⟨w.heap.size, 7, none⟩ = some (.int .i64 0) := (blk_cell a0.out 7).trans rfl; have fe7 := blk_frozen a0.out 7; have e8 : W3.cell? ⟨w.heap.size, 8, none⟩ = some (.int .i64 0) := (blk_cell a0.out 8).trans rfl; have fe8 := blk_frozen a0.out 8; have e9 : W3.cell? ⟨w.heap.size, 9, none⟩ = some (.int .i64 0) := (blk_cell a0.out 9).trans rfl; have fe9 := blk_frozen a0.out 9; have e10 : W3.cell? ⟨w.heap.size, 10, none⟩ = some (.int .i64 0) := (blk_cell a0.out 10).trans rfl; have fe10 := blk_frozen a0.out 10; have e11 : W3.cell? ⟨w.heap.size, 11, none⟩ = some (.string ⟨#[]⟩) := (blk_cell a0.out 11).trans rfl; have fe11 := blk_frozen a0.out 11; have e12 : W3.cell? ⟨w.heap.size, 12, none⟩ = some (.string ⟨#[]⟩) := (blk_cell a0.out 12).trans rfl; have fe12 := blk_frozen a0.out 12; have e13 : W3.cell? ⟨w.heap.size, 13, none⟩ = some (.slice none 0 0) := (blk_cell a0.out 13).trans rfl; have fe13 := blk_frozen a0.out 13; have e14 : W3.cell? ⟨w.heap.size, 14, none⟩ = some (.int .i64 0) := (blk_cell a0.out 14).trans rfl; have fe14 := blk_frozen a0.out 14; have v0 : W3.cell? ⟨W1.heap.size, 0, none⟩ = some (.int .i64 9) := (blk_cell a2.out 0).trans rfl; have v1 : W3.cell? ⟨W1.heap.size, 1, none⟩ = some (.string ⟨#[]⟩) := (blk_cell a2.out 1).trans rfl; have v2 : W3.cell? ⟨W1.heap.size, 2, none⟩ = some (.string ⟨#[]⟩) := (blk_cell a2.out 2).trans rfl; have v3 : W3.cell? ⟨W1.heap.size, 3, none⟩ = some (.int .i64 0) := (blk_cell a2.out 3).trans rfl; have v4 : W3.cell? ⟨W1.heap.size, 4, none⟩ = some (.int .i64 0) := (blk_cell a2.out 4).trans rfl; have v5 : W3.cell? ⟨W1.heap.size, 5, none⟩ = some (.string ⟨#[]⟩) := (blk_cell a2.out 5).trans rfl; have v6 : W3.cell? ⟨W1.heap.size, 6, none⟩ = some (.int .i64 0) := (blk_cell a2.out 6).trans rfl; have v7 : W3.cell? ⟨W1.heap.size, 7, none⟩ = some (.int .i64 0) := (blk_cell a2.out 7).trans rfl; have v8 : W3.cell? ⟨W1.heap.size, 8, none⟩ = some (.int .i64 0) := (blk_cell a2.out 8).trans rfl; have v9 : W3.cell? ⟨W1.heap.size, 9, none⟩ = some (.int .i64 0) := (blk_cell a2.out 9).trans rfl; have b3 : W3.cell? ⟨W1.heap.size, 10, none⟩ = some (.int .i64 0) := (blk_cell a2.out 10).trans rfl; have b4 : W3.cell? ⟨W1.heap.size, 11, none⟩ = some (.string ⟨#[]⟩) := (blk_cell a2.out 11).trans rfl; have b5 : W3.cell? ⟨W1.heap.size, 12, none⟩ = some (.string ⟨#[]⟩) := (blk_cell a2.out 12).trans rfl; have b6 : W3.cell? ⟨W1.heap.size, 13, none⟩ = some (.slice none 0 0) := (blk_cell a2.out 13).trans rfl; have b7 : W3.cell? ⟨W1.heap.size, 14, none⟩ = some (.int .i64 0) := (blk_cell a2.out 14).trans rfl; go_wp2_with fail; refine bodyPost_ret (results_ct rfl _ _ w.heap.size 28 (eV 9 ⟨#[]⟩ ⟨#[]⟩ 0 0 ⟨#[]⟩ 0 0 0 0 0 ⟨#[]⟩ ⟨#[]⟩ (.slice none 0 0) 0) (0, 0) _ rfl (by refine blk_put (cs := (eV 9 ⟨#[]⟩ ⟨#[]⟩ 0 0 ⟨#[]⟩ 0 0 0 0 0 ⟨#[]⟩ ⟨#[]⟩ (.slice none 0 0) 0)) ?_ 14 _ rfl; refine blk_put (cs := (eV 9 ⟨#[]⟩ ⟨#[]⟩ 0 0 ⟨#[]⟩ 0 0 0 0 0 ⟨#[]⟩ ⟨#[]⟩ (.slice none 0 0) 0)) ?_ 13 _ rfl; refine blk_put (cs := (eV 9 ⟨#[]⟩ ⟨#[]⟩ 0 0 ⟨#[]⟩ 0 0 0 0 0 ⟨#[]⟩ ⟨#[]⟩ (.slice none 0 0) 0)) ?_ 12 _ rfl; refine blk_put (cs := (eV 9 ⟨#[]⟩ ⟨#[]⟩ 0 0 ⟨#[]⟩ 0 0 0 0 0 ⟨#[]⟩ ⟨#[]⟩ (.slice none 0 0) 0)) ?_ 11 _ rfl; refine blk_put (cs := (eV 9 ⟨#[]⟩ ⟨#[]⟩ 0 0 ⟨#[]⟩ 0 0 0 0 0 ⟨#[]⟩ ⟨#[]⟩ (.slice none 0 0) 0)) ?_ 10 _ rfl; refine blk_put (cs := (eV 9 ⟨#[]⟩ ⟨#[]⟩ 0 0 ⟨#[]⟩ 0 0 0 0 0 ⟨#[]⟩ ⟨#[]⟩ (.slice none 0 0) 0)) ?_ 9 _ rfl; refine blk_put (cs := (eV 9 ⟨#[]⟩ ⟨#[]⟩ 0 0 ⟨#[]⟩ 0 0 0 0 0 ⟨#[]⟩ ⟨#[]⟩ (.slice none 0 0) 0)) ?_ 8 _ rfl; refine blk_put (cs := (eV 9 ⟨#[]⟩ ⟨#[]⟩ 0 0 ⟨#[]⟩ 0 0 0 0 0 ⟨#[]⟩ ⟨#[]⟩ (.slice none 0 0) 0)) ?_ 7 _ rfl; refine blk_put (cs := (eV 9 ⟨#[]⟩ ⟨#[]⟩ 0 0 ⟨#[]⟩ 0 0 0 0 0 ⟨#[]⟩ ⟨#[]⟩ (.slice none 0 0) 0)) ?_ 6 _ rfl; refine blk_put (cs := (eV 9 ⟨#[]⟩ ⟨#[]⟩ 0 0 ⟨#[]⟩ 0 0 0 0 0 ⟨#[]⟩ ⟨#[]⟩ (.slice none 0 0) 0)) ?_ 5 _ rfl; refine blk_put (cs := (eV 9 ⟨#[]⟩ ⟨#[]⟩ 0 0 ⟨#[]⟩ 0 0 0 0 0 ⟨#[]⟩ ⟨#[]⟩ (.slice none 0 0) 0)) ?_ 4 _ rfl; refine blk_put (cs := (eV 9 ⟨#[]⟩ ⟨#[]⟩ 0 0 ⟨#[]⟩ 0 0 0 0 0 ⟨#[]⟩ ⟨#[]⟩ (.slice none 0 0) 0)) ?_ 3 _ rfl; refine blk_put (cs := (eV 9 ⟨#[]⟩ ⟨#[]⟩ 0 0 ⟨#[]⟩ 0 0 0 0 0 ⟨#[]⟩ ⟨#[]⟩ (.slice none 0 0) 0)) ?_ 2 _ rfl; refine blk_put (cs := (eV 9 ⟨#[]⟩ ⟨#[]⟩ 0 0 ⟨#[]⟩ 0 0 0 0 0 ⟨#[]⟩ ⟨#[]⟩ (.slice none 0 0) 0)) ?_ 1 _ rfl; refine blk_put (cs := (eV 0 ⟨#[]⟩ ⟨#[]⟩ 0 0 ⟨#[]⟩ 0 0 0 0 0 ⟨#[]⟩ ⟨#[]⟩ (.slice none 0 0) 0)) ?_ 0 _ rfl; exact a0.out) Tryd.underlying28 rfl (by kernel_rfl)) rfl ?_; exact ⟨rfl, by refine Below.setCell (p := ⟨w.heap.size, 14, none⟩) ?_ (Nat.le_refl _) _; refine Below.setCell (p := ⟨w.heap.size, 13, none⟩) ?_ (Nat.le_refl _) _; refine Below.setCell (p := ⟨w.heap.size, 12, none⟩) ?_ (Nat.le_refl _) _; refine Below.setCell (p := ⟨w.heap.size, 11, none⟩) ?_ (Nat.le_refl _) _; refine Below.setCell (p := ⟨w.heap.size, 10, none⟩) ?_ (Nat.le_refl _) _; refine Below.setCell (p := ⟨w.heap.size, 9, none⟩) ?_ (Nat.le_refl _) _; refine Below.setCell (p := ⟨w.heap.size, 8, none⟩) ?_ (Nat.le_refl _) _; refine Below.setCell (p := ⟨w.heap.size, 7, none⟩) ?_ (Nat.le_refl _) _; refine Below.setCell (p := ⟨w.heap.size, 6, none⟩) ?_ (Nat.le_refl _) _; refine Below.setCell (p := ⟨w.heap.size, 5, none⟩) ?_ (Nat.le_refl _) _; refine Below.setCell (p := ⟨w.heap.size, 4, none⟩) ?_ (Nat.le_refl _) _; refine Below.setCell (p := ⟨w.heap.size, 3, none⟩) ?_ (Nat.le_refl _) _; refine Below.setCell (p := ⟨w.heap.size, 2, none⟩) ?_ (Nat.le_refl _) _; refine Below.setCell (p := ⟨w.heap.size, 1, none⟩) ?_ (Nat.le_refl _) _; refine Below.setCell (p := ⟨w.heap.size, 0, none⟩) ?_ (Nat.le_refl _) _; exact c4.out⟩
def damperlaw3_known.f : Option Bool := some true
theorem damperlaw3_known.calls (r : Bool) (w : World) (hLd_ : Aside0 (LaidW w)) (h : damperlaw3_known.f = some r) :
    Calls Tryd.prog 12 #[] w fun e w' => e = .returned (.bool r) ∧ Below w.heap.size w w' := by
  obtain rfl := Option.some.inj h; have hcut := fun (A : Option Addr) (c : Nat) (W : World) hC hc => event_Cut.calls A c [0, 0] [[]] W hC hc (by decide +kernel); go_enter Tryd.func12, Tryd.ntmps12; go_wp2_with fail; refine (parse_none none 0 w (Kd.C_nil _ _) (Nat.le_refl _)).mono ?_; rintro e W1 ⟨rfl, a0⟩; have a1 := Aside0.mk a0; clear a0; go_wp2_with fail
  refine (parse_nine (some ⟨W1.heap.size + 1, 0, none⟩) 1 _ ⟨hLd_.out.below (below_alloc (below_alloc a1.out _) _)⟩ (Ev.ints_row [9] (cs := #[.int .u8 9]) (t := 5) (by
      have h1 := blk_new (W1.alloc (.cells (eV 0 ⟨#[]⟩ ⟨#[]⟩ 0 0 ⟨#[]⟩ 0 0 0 0 0 ⟨#[]⟩ ⟨#[]⟩ (.slice none 0 0) 0) 28)) (.cells #[.int .u8 9] 5 (0, 0))
      rwa [World.size_alloc] at h1) rfl (by decide)) (Nat.le_refl _)).mono ?_
  rintro e W2 ⟨rfl, a2⟩; have a4 := Aside0.mk (below_step (below_alloc (below_alloc a1.out _) _) a2); clear a2; go_wp2_with fail
  refine (event_Cut.calls (some ⟨W2.heap.size + 1, 0, none⟩) 2 [0, 0] [[]] _ (Ev.ints_row [0, 0] (cs := #[.int .u8 0, .int .u8 0]) (t := 5) (by
      have h1 := blk_new (W2.alloc (.cells (eV 9 ⟨#[]⟩ ⟨#[]⟩ 0 0 ⟨#[]⟩ 0 0 0 0 0 ⟨#[]⟩ ⟨#[]⟩ (.slice none 0 0) 0) 28)) (.cells #[.int .u8 0, .int .u8 0] 5 (0, 0))
      rwa [World.size_alloc] at h1) rfl (by decide)) (Nat.le_refl _) (by decide +kernel)).mono ?_
  rintro e W3 ⟨v, rfl, hR, a3⟩; obtain ⟨A3, c3, rfl⟩ := Kd.R_slice (Kd.S_R hR); have a5 := Aside0.mk (below_step (below_alloc (below_alloc a4.out _) _) a3); clear a3 hR; go_wp2_with fail; go_ret; exact ⟨rfl, a5.out⟩
end

end Go.Proofs.YtalpoojepffldaaDoor.Ma
