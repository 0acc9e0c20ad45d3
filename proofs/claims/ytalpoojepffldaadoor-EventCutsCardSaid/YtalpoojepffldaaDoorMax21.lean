-- Written by a program of this session (wip/tools/myprint.py), in the form of the kit's print. Not trusted: Lean checks it.
import Derived.Test.YtalpoojepffldaaDoorMax0
namespace Go.Proofs.YtalpoojepffldaaDoor.Ma
open Go.RowKit Go.Proofs.YtalpoojepffldaaDoorW.PrintWords Go.Proofs.YtalpoojepffldaaDoorW.PrintLast Go.Proofs.YtalpoojepffldaaDoorW.PrintMore
attribute [local go_sem] max2_int min2_int max_two min_two max_three min_three max_four min_four   -- for this text's walks alone
set_option linter.unusedVariables false
set_option linter.unusedSimpArgs false

/-! ### event_Cut: function 23 -/
abbrev kb : Kd Int := Kd.int .u8
abbrev kbs : Kd (List Int) := Kd.slice 5 kb
/-- A row's pieces: the first two numbers of each say how long it is. -/
def hd2 (x y : Int) : Int := Go.bits .or .i64 (wrap64 ((wrap64 x) * 256)) (wrap64 y)
/-- How long the next piece is. -/
def cutN (x y : Int) (n : Nat) : Int := if wrap64 (n : Int) < hd2 x y then wrap64 (n : Int) else hd2 x y
def cutO : Nat → List Int → Option (List (List Int))
  | 0, _ => some []
  | _ + 1, [] => some []
  | _ + 1, [x] => some [[x]]
  | k + 1, x :: y :: l => if 0 ≤ hd2 x y then (cutO k (l.drop (cutN x y l.length).toNat)).map (l.take (cutN x y l.length).toNat :: ·) else none
def event_Cut.f (l0 : List Int) : Option (List (List Int)) := if l0.length ≤ 1000000 then cutO l0.length l0 else none
set_option maxHeartbeats 8000000 in
set_option maxRecDepth 100000 in
theorem clone_bytes (A0 : Option Addr) (c0 : Nat) (l0 : List Int) (w : World) (hr0 : Kd.C (Kd.int .u8) w A0 l0.length l0) (hc0 : l0.length ≤ c0) (hb : l0.length ≤ 140737488355328) :
    Calls Tryd.prog 66 #[.slice A0 l0.length c0] w fun e w' => ∃ v0_ : Value, e = .returned v0_ ∧ Kd.R (Kd.int .u8) 5 w' w.heap.size (fun _ => True) v0_ l0 ∧ Below w.heap.size w w' := by
  have u41 := Tryd.underlying41
  have q41 : ∀ (w : World) (a : Option Addr) (n c n' c' : Nat), (binOp .eql 41 (.slice a n c) (.slice none n' c')).run Tryd.prog w = .ok (.bool a.isNone) w := fun w a n c n' c' => Lib.run_eql_slice_nil w _ _ a n c n' c' Tryd.underlying41
  cases A0 with
  | none =>
    have hl : l0 = [] := by
      cases l0 with
      | nil => rfl
      | cons x l => obtain ⟨ad, e, _⟩ := hr0.2.2 (by simp); cases e
    subst hl
    go_enter Tryd.func66, Tryd.ntmps66
    go_wp2_with fail
    go_ret
    exact ⟨_, rfl, Kd.R_nil _ _ _ _ _, Below.refl _ _⟩
  | some ad =>
    have HC := Aside0.mk hr0
    clear hr0
    have hlen : (0 + l0.length) * 1 ≤ 140737488355328 := by omega
    go_enter Tryd.func66, Tryd.ntmps66
    go_wp2_with (at_builtin; refine Kd.R_append_rows (Kd.int .u8) (w0 := w) w.heap.size rfl _ _ 41 5 (.int .u8 0) 1 rfl u41 (by kernel_rfl) rfl (by decide) (by decide) _ [] l0 (some ad) l0.length c0 (fun _ => True) (fun _ => False) rfl rfl ?ho ?hr (fun _ _ h => h) (fun _ h => h.elim) (fun _ _ => trivial) ?hB ?hbase hlen ?_)
    case ho => exact ⟨fun _ _ => trivial, [], by first | exact World.ownsRow_made w #[] 0 (Nat.le_refl _) (Nat.zero_le _) rfl | exact World.ownsRow_made w #[] 0 (by simp) (by simp) rfl, Reps.none _ _⟩
    case hr => exact Kd.C_alloc HC.out _
    case hB => exact (Below.refl _ w).alloc (Nat.le_refl _) _
    case hbase => first | omega | (simp; done)
    intro v' w1 hown hb1 hgrow hat
    go_wp2
    go_ret
    exact ⟨v', rfl, by simpa using hown, hb1⟩
set_option maxHeartbeats 8000000 in
set_option maxRecDepth 100000 in
/-- slices.Clone of a row of rows: the rows are the same ones. -/
theorem clone_any {α : Type} (d : Kd α) (hsz : Aside0 (d.sz = 1)) (v : Value) (l : List α) (n0 : Nat) (ok : Nat → Prop) (w : World) (hn0 : n0 ≤ w.heap.size) (hR : Kd.R d 41 w n0 ok v l) (hm : l.length ≤ 1000000) :
    Calls Tryd.prog 61 #[v] w fun e w' => ∃ v' : Value, e = .returned v' ∧ Kd.R d 41 w' n0 (fun _ => True) v' l ∧ Below w.heap.size w w' := by
  have u43 := Tryd.underlying43
  have q43 : ∀ (w : World) (a : Option Addr) (n c n' c' : Nat), (binOp .eql 43 (.slice a n c) (.slice none n' c')).run Tryd.prog w = .ok (.bool a.isNone) w := fun w a n c n' c' => Lib.run_eql_slice_nil w _ _ a n c n' c' Tryd.underlying43
  have hb := Kd.R_bound hR
  obtain ⟨A, c, rfl, hl, _⟩ := Kd.R_reads hR
  clear hR
  obtain ⟨_, hO⟩ := hb
  obtain ⟨A', c', e', hl', hrow⟩ := OwnRow.reads hO
  injection e' with e1 e2 e3
  subst e1 e3
  clear e2 hl' hO
  cases A with
  | none =>
    have hl0 : l = [] := by
      cases l with
      | nil => rfl
      | cons x l => obtain ⟨ad, e, _⟩ := hrow.2.2 (by simp); cases e
    subst hl0
    go_enter Tryd.func61, Tryd.ntmps61
    go_wp2_with fail
    go_ret
    exact ⟨_, rfl, Kd.R_nil _ _ _ _ _, Below.refl _ _⟩
  | some ad =>
    have HC := Aside0.mk hrow
    clear hrow
    have hlen : (0 + l.length) * 24 ≤ 140737488355328 := by omega
    go_enter Tryd.func61, Tryd.ntmps61
    go_wp2_with (at_builtin; refine Kd.R_append_rows d (w0 := w) n0 rfl _ _ 43 41 (.slice none 0 0) 24 rfl u43 (by rw [hsz.out]; kernel_rfl) (by rw [hsz.out]; rfl) (by rw [hsz.out]; decide) (by decide) _ [] l (some ad) l.length c (fun _ => True) (fun k => k < w.heap.size) rfl rfl ?ho ?hr (fun _ _ h => h) ?hokp (fun _ _ => trivial) ?hB ?hbase hlen ?_)
    case ho => exact ⟨fun _ _ => trivial, [], by rw [hsz.out]; first | exact World.ownsRow_made w #[] 0 hn0 (Nat.zero_le _) rfl | exact World.ownsRow_made w #[] 0 (by simp; omega) (by simp) rfl, Reps.none _ _⟩
    case hr => exact ReadsRow.imp_ HC.out (below_alloc (Below.refl _ _) _) (fun _ _ hp => Kd.M_below (d.M_mono (fun k hk => hk.1.2.2.1) hp) (below_alloc (Below.refl _ _) _))
    case hokp => intro k hk; first | (refine ⟨trivial, ?_⟩; intro he; simp [Value.ownBlock] at he; omega) | (intro he; simp [Value.ownBlock] at he; omega)
    case hB => exact (Below.refl _ w).alloc hn0 _
    case hbase => first | omega | (simp; omega)
    intro v' w1 hown hb1 hgrow hat
    go_wp2
    go_ret
    exact ⟨v', rfl, by simpa using hown, ((Below.refl _ w).alloc (Nat.le_refl _) _).grown hgrow (by simp) (by intro k hk; simp [Value.ownBlock] at hk; omega)⟩
set_option maxHeartbeats 8000000 in
set_option maxRecDepth 100000 in
theorem pieces_walk (A : Option Addr) (n c : Nat) (w : World) :
    Calls Tryd.prog 60 #[.slice A n c] w fun e w' => e = .returned (.func (.func 79) #[] #[.pointer (some ⟨w.heap.size, 0, none⟩)]) ∧ w' = w.alloc (.cells #[.slice A n c] 41) := by
  go_enter Tryd.func60, Tryd.ntmps60
  go_wp2_with fail
  go_ret
  exact ⟨rfl, rfl⟩
/-- A piece that is handed over: a row of its own. -/
def handed (n0 m : Nat) (x : List Int) (W : World) (vs : Array Value) : Prop := ∃ v, vs = #[v] ∧ Kd.R kb 5 W n0 (fun k => m ≤ k) v x
/-- What a round keeps: what came in, and the iterator's box. -/
def KpB (n0 B : Nat) (W W' : World) : Prop := W.heap.size ≤ W'.heap.size ∧ ∀ k, k < n0 ∨ k = B → W'.heap[k]? = W.heap[k]?
def boxLen : Option Obj → Nat
  | some (.cells #[.slice _ n _] _ _) => n
  | _ => 0
set_option maxHeartbeats 8000000 in
set_option maxRecDepth 100000 in
theorem pieces1_box (B : Nat) (w0 w : World) (A : Option Addr) (c : Nat) (bs : List Int) (all : List (List Int)) (hC : Kd.C kb w0 A bs.length bs) (hc : bs.length ≤ c) (hb : Below w0.heap.size w0 w) (hBn : w0.heap.size ≤ B) (hbox : w.heap[B]? = some (.cells #[.slice A bs.length c] 41 (0, 0))) (hm : bs.length ≤ 1000000) (hall : cutO bs.length bs = some all) :
    Ev.SeqBox Fence.wide 5 Tryd.prog 79 #[.pointer (some ⟨B, 0, none⟩)] (handed w0.heap.size) (KpB w0.heap.size B) (fun xs => xs = all) all.length B w := by
  intro l J W hW hJg hJb hY h0
  refine callsIn_of_wp Tryd.func79 rfl trivial ?_ rfl
  simp only [Tryd.ntmps79, List.size_toArray, List.length_cons, List.length_nil, Nat.reduceAdd, Nat.reduceSub, Array.replicate_succ, Array.replicate_zero, List.push_toArray, List.append_toArray, List.nil_append, List.cons_append]
  gi_wp2
  have HCb := Aside0.mk hC
  have HB0 : Aside0 (∀ k, k < w0.heap.size → W.heap[k]? = w0.heap[k]?) := ⟨fun k hk => (hW.block k (Nat.lt_of_lt_of_le hk hb.size)).trans (hb.block k hk)⟩
  have HX0 : Aside0 (W.heap[B]? = some (.cells #[.slice A bs.length c] 41 (0, 0))) := ⟨(hW.block B (blk_lt hbox)).trans hbox⟩
  have HSz : Aside0 (w0.heap.size ≤ W.heap.size) := ⟨Nat.le_trans hb.size hW.size⟩
  have HYY := Aside0.mk hY
  have HJg := Aside0.mk hJg
  have HJb := Aside0.mk hJb
  have HJ0 := Aside0.mk h0
  have HBn := Aside0.mk hBn
  have HM := Aside0.mk hm
  have HA := Aside0.mk hall
  clear hC hb hbox hW hY h0 hJg hJb hBn hm hall
  gi_loopw [3] (fun v3 wr => ∃ (A' : Option Addr) (c' : Nat) (rest : List Int) (pre : List (List Int)) (k : Nat) (tail : List (List Int)), Aside0 (wr.heap[B]? = some (.cells #[.slice A' rest.length c'] 41 (0, 0))) ∧ Aside0 (Kd.C kb w0 A' rest.length rest) ∧ Aside0 (rest.length ≤ c') ∧ Aside0 (∀ k, k < w0.heap.size → wr.heap[k]? = w0.heap[k]?) ∧ Aside0 (w0.heap.size ≤ wr.heap.size) ∧ Aside0 (J pre wr) ∧ Aside0 ((rest.length ≤ k ∧ rest.length ≤ 1000000) ∧ cutO k rest = some tail ∧ pre ++ tail = all)) (fun v3 wr => boxLen wr.heap[B]?)
  case atStart => exact ⟨A, c, bs, [], bs.length, all, HX0, HCb, ⟨hc⟩, HB0, HSz, HJ0, ⟨⟨Nat.le_refl _, HM.out⟩, HA.out, rfl⟩⟩
  case round =>
    clear HX0 HCb HB0 HSz HJ0 HA
    obtain ⟨A', c', rest, pre, k, tail, HX, HC', Hc', HBk, HSk, HJ, HP⟩ := hrel
    have k0 : wr.cell? ⟨B, 0, none⟩ = some (.slice A' rest.length c') := (blk_cell HX.out 0).trans rfl
    have kf := blk_frozen HX.out 0
    cases rest with
    | nil =>
      gi_wp2
      go_end0
      obtain ⟨_, hcut, hout⟩ := HP.out
      have ht : tail = [] := by cases k <;> simpa [cutO] using hcut.symm
      subst ht
      rw [List.append_nil] at hout
      exact ⟨⟨_, rfl⟩, _, hout, HJ.out⟩
    | cons x rest =>
      obtain ⟨ad, eA, hcell⟩ := HC'.out.2.2 (by simp)
      subst eA
      clear hcell
      have hx := Ev.ints_at HC'.out 0 (.int .u8 x) rfl
      have hx := (Ev.cell_of HBk.out hx).trans hx
      obtain ⟨b, o, sp⟩ := ad
      obtain rfl : sp = none := Ev.spot_none hx
      have kx : wr.cell? ⟨b, o, none⟩ = some (.int .u8 x) := hx
      clear hx
      obtain ⟨hk, hcut, hout⟩ := HP.out
      obtain ⟨k', rfl⟩ : ∃ j, k = j + 1 := ⟨k - 1, by simp at hk; omega⟩
      cases rest with
      | nil =>
        obtain ⟨tail', ht', rfl⟩ : ∃ tail', cutO k' [] = some tail' ∧ [x] :: tail' = tail := by
          rw [cutO] at hcut
          exact ⟨[], by cases k' <;> rfl, by simpa using hcut⟩
        have h1c : (1 : Int) ≤ (c' : Int) := by have := Hc'.out; simp at this; omega
        have hcl := clone_bytes (some ⟨b, o, none⟩) c' [x] wr (Ev.C_keep_ HC'.out HBk.out) Hc'.out (by simp)
        clear hcut
        gi_wp2
        refine ⟨trivial, callsIn_wide.2 (hcl.mono ?_)⟩
        rintro e w4 ⟨v, rfl, hR, hb4⟩
        have HX4 := blk_below HX.out hb4
        obtain ⟨fn, tmps, assign, body, hy, hRd⟩ := HYY.out pre [x] #[v] wr w4 HJ.out hb4 (by have := congrArg List.length hout; simp at this; omega) ⟨v, rfl, Kd.R_lower (Kd.R_mono (Kd.R_bound hR) (fun k hk => hk.2.1)) HSk.out⟩
        (try dsimp only at hy)
        have HB4 : Aside0 (∀ k, k < w0.heap.size → w4.heap[k]? = w0.heap[k]?) := ⟨fun k hk => (hb4.block k (Nat.lt_of_lt_of_le hk HSk.out)).trans (HBk.out k hk)⟩
        have HS4 : Aside0 (w0.heap.size ≤ w4.heap.size) := ⟨Nat.le_trans HSk.out hb4.size⟩
        clear hR hb4 hcl
        gi_wp2
        refine hRd.mono ?_
        rintro e W3 ⟨rfl, hJ3, hk3⟩
        have HX3 := (hk3.2 B (.inr rfl)).trans HX4
        have k3 : W3.cell? ⟨B, 0, none⟩ = some (.slice (some ⟨b, o, none⟩) 1 c') := (blk_cell HX3 0).trans rfl
        have kf3 := blk_frozen HX3 0
        have HB3 : Aside0 (∀ k, k < w0.heap.size → W3.heap[k]? = w0.heap[k]?) := ⟨fun k hk => (hk3.2 k (.inl hk)).trans (HB4.out k hk)⟩
        have HS3 : Aside0 (w0.heap.size ≤ W3.heap.size) := ⟨Nat.le_trans HS4.out hk3.1⟩
        have HJ3 := Aside0.mk hJ3
        have HX3 := Aside0.mk HX3
        clear hJ3 hk3 HX4
        have nil_C : ∀ A, Kd.C kb w0 A ([] : List Int).length [] := fun A => ⟨rfl, by simp, fun h => absurd h (Nat.lt_irrefl 0)⟩
        by_cases hc1 : c' = 1
        · subst hc1
          gi_wp2
          go_roundw
          case rel => exact ⟨some ⟨b, o, none⟩, 0, [], pre ++ [[x]], k', tail', ⟨by first | exact blk_set HX3.out 0 _ | (rw [List.length_drop]; exact blk_set HX3.out 0 _)⟩, ⟨nil_C _⟩, ⟨Nat.le_refl _⟩, ⟨fun k hk => (Below.heap_setCell _ ⟨B, 0, none⟩ _ k (show k ≠ B by have := HBn.out; omega)).trans (HB3.out k hk)⟩, ⟨by have := HS3.out; simpa using this⟩, ⟨HJb.out _ _ _ HJ3.out⟩, ⟨⟨by simp, by simp⟩, ht', by simpa using hout⟩⟩
          case measure =>
            have h1 := blk_set HX3.out 0 (.slice (some ⟨b, o, none⟩) ([] : List Int).length (0))
            (try rw [List.length_drop] at h1)
            show boxLen _ < boxLen _
            rw [HX.out]
            first | rw [h1] | (simp only [List.length_nil] at h1; rw [h1])
            show ([] : List Int).length < [x].length
            simp <;> omega
        · have hc1' : ((1 : Int) = (c' : Int)) = False := eq_false (by omega)
          gi_wp2
          go_roundw
          case rel => exact ⟨some ⟨b, o + 1, none⟩, c' - 1, [], pre ++ [[x]], k', tail', ⟨by first | exact blk_set HX3.out 0 _ | (rw [List.length_drop]; exact blk_set HX3.out 0 _)⟩, ⟨nil_C _⟩, ⟨Nat.zero_le _⟩, ⟨fun k hk => (Below.heap_setCell _ ⟨B, 0, none⟩ _ k (show k ≠ B by have := HBn.out; omega)).trans (HB3.out k hk)⟩, ⟨by have := HS3.out; simpa using this⟩, ⟨HJb.out _ _ _ HJ3.out⟩, ⟨⟨by simp, by simp⟩, ht', by simpa using hout⟩⟩
          case measure =>
            have h1 := blk_set HX3.out 0 (.slice (some ⟨b, o + 1, none⟩) ([] : List Int).length (c' - 1))
            (try rw [List.length_drop] at h1)
            show boxLen _ < boxLen _
            rw [HX.out]
            first | rw [h1] | (simp only [List.length_nil] at h1; rw [h1])
            show ([] : List Int).length < [x].length
            simp <;> omega
      | cons y rest =>
        have ky : wr.cell? ⟨b, o + 1, none⟩ = some (.int .u8 y) := by
          have h2 := Ev.ints_at HC'.out 1 (.int .u8 y) rfl
          exact (Ev.cell_of HBk.out h2).trans h2
        have l0 : (0 < (rest.length : Int) + 2) = True := eq_true (by omega)
        have l1 : (1 < (rest.length : Int) + 2) = True := eq_true (by omega)
        have l2 : (2 ≤ (rest.length : Int) + 2) = True := eq_true (by omega)
        have l3 : ((rest.length : Int) + 1 + 1 < 2) = False := eq_false (by omega)
        have l4 : (0 < (rest.length : Int) + 1 + 1) = True := eq_true (by omega)
        obtain ⟨tail', hd0, ht', rfl⟩ : ∃ tail', 0 ≤ hd2 x y ∧ cutO k' (rest.drop (cutN x y rest.length).toNat) = some tail' ∧ rest.take (cutN x y rest.length).toNat :: tail' = tail := by
          rw [cutO] at hcut
          split at hcut
          case isFalse => cases hcut
          rename_i hd0
          obtain ⟨tail', ht', h2⟩ := Option.map_eq_some_iff.1 hcut
          exact ⟨tail', hd0, ht', h2⟩
        clear hcut
        have hw : wrap64 (rest.length : Int) = (rest.length : Int) := by have := hk.2; simp at this; unfold wrap64; omega
        obtain ⟨N, hNle, hN⟩ : ∃ N : Nat, N ≤ rest.length ∧ cutN x y rest.length = (N : Int) := by
          unfold cutN
          rw [hw]
          split
          · exact ⟨rest.length, Nat.le_refl _, rfl⟩
          · exact ⟨(hd2 x y).toNat, by omega, by omega⟩
        rw [hN, Int.toNat_natCast] at ht' hout
        have hN2 := hN
        unfold cutN hd2 at hN2
        clear hw hN hd0
        gi_wp2
        refine wpIn_wide.2 ?_
        refine start_ (n := 15) (S := fun w' => w'.cell? ⟨B, 0, none⟩ = some (.slice (some ⟨b, o, none⟩) (rest.length + 2) c') ∧ w'.cell? ⟨b, o, none⟩ = some (.int .u8 x) ∧ w'.cell? ⟨b, o + 1, none⟩ = some (.int .u8 y)) (ds := []) #[false, false, false, false, false, false, false, false, false, false, false, false, false, false, false] (by kernel_rfl) rfl rfl ⟨k0, kx, ky⟩ (fun hHeld => ?_)
        refine take_ (i := 0) (N := some 12) (v := ?_) (a' := ?_) #[true, false, false, false, false, false, false, false, false, false, false, false, false, false, false] rfl rfl (by kernel_rfl) (fun _ _ _ h => h) (Or.inl ⟨by rfl, ?_⟩) hHeld ?_ ?_
        rotate_left
        · rintro w' ⟨s0, s1, s2⟩
          go_simp
          with_reducible rfl
        rotate_left
        · simp only [Act.put, List.setIfInBounds_toArray, List.set_cons_zero, List.set_cons_succ, i64_w, i32_w]
          rfl
        refine pure_ (i := 1) (N := some 13) (v := ?_) (a' := ?_) #[true, true, false, false, false, false, false, false, false, false, false, false, false, false, false] rfl rfl (by kernel_rfl) (fun _ _ _ h => h) (Or.inl ⟨by rfl, ?_⟩) ?_ ?_
        rotate_left
        · intro w'
          go_simp
          with_reducible rfl
        rotate_left
        · simp only [Act.put, List.setIfInBounds_toArray, List.set_cons_zero, List.set_cons_succ, i64_w, i32_w]
          rfl
        refine take_ (i := 2) (N := some 14) (v := ?_) (a' := ?_) #[true, true, true, false, false, false, false, false, false, false, false, false, false, false, false] rfl rfl (by kernel_rfl) (fun _ _ _ h => h) (Or.inl ⟨by rfl, ?_⟩) hHeld ?_ ?_
        rotate_left
        · rintro w' ⟨s0, s1, s2⟩
          go_simp
          with_reducible rfl
        rotate_left
        · simp only [Act.put, List.setIfInBounds_toArray, List.set_cons_zero, List.set_cons_succ, i64_w, i32_w]
          rfl
        refine pure_ (i := 3) (N := some 15) (v := ?_) (a' := ?_) #[true, true, true, true, false, false, false, false, false, false, false, false, false, false, false] rfl rfl (by kernel_rfl) (fun _ _ _ h => h) (Or.inl ⟨by rfl, ?_⟩) ?_ ?_
        rotate_left
        · intro w'
          go_simp
          with_reducible rfl
        rotate_left
        · simp only [Act.put, List.setIfInBounds_toArray, List.set_cons_zero, List.set_cons_succ, i64_w, i32_w]
          rfl
        refine pure_ (i := 4) (N := some 16) (v := ?_) (a' := ?_) #[true, true, true, true, true, false, false, false, false, false, false, false, false, false, false] rfl rfl (by kernel_rfl) (fun _ _ _ h => h) (Or.inl ⟨by rfl, ?_⟩) ?_ ?_
        rotate_left
        · intro w'
          go_simp
          with_reducible rfl
        rotate_left
        · simp only [Act.put, List.setIfInBounds_toArray, List.set_cons_zero, List.set_cons_succ, i64_w, i32_w]
          rfl
        refine take_ (i := 5) (N := some 17) (v := ?_) (a' := ?_) #[true, true, true, true, true, true, false, false, false, false, false, false, false, false, false] rfl rfl (by kernel_rfl) (fun _ _ _ h => h) (Or.inl ⟨by rfl, ?_⟩) hHeld ?_ ?_
        rotate_left
        · rintro w' ⟨s0, s1, s2⟩
          go_simp
          with_reducible rfl
        rotate_left
        · simp only [Act.put, List.setIfInBounds_toArray, List.set_cons_zero, List.set_cons_succ, i64_w, i32_w]
          rfl
        refine pure_ (i := 6) (N := some 18) (v := ?_) (a' := ?_) #[true, true, true, true, true, true, true, false, false, false, false, false, false, false, false] rfl rfl (by kernel_rfl) (fun _ _ _ h => h) (Or.inl ⟨by rfl, ?_⟩) ?_ ?_
        rotate_left
        · intro w'
          go_simp
          with_reducible rfl
        rotate_left
        · simp only [Act.put, List.setIfInBounds_toArray, List.set_cons_zero, List.set_cons_succ, i64_w, i32_w]
          rfl
        refine take_ (i := 7) (N := some 19) (v := ?_) (a' := ?_) #[true, true, true, true, true, true, true, true, false, false, false, false, false, false, false] rfl rfl (by kernel_rfl) (fun _ _ _ h => h) (Or.inl ⟨by rfl, ?_⟩) hHeld ?_ ?_
        rotate_left
        · rintro w' ⟨s0, s1, s2⟩
          go_simp
          with_reducible rfl
        rotate_left
        · simp only [Act.put, List.setIfInBounds_toArray, List.set_cons_zero, List.set_cons_succ, i64_w, i32_w]
          rfl
        refine pure_ (i := 8) (N := some 20) (v := ?_) (a' := ?_) #[true, true, true, true, true, true, true, true, true, false, false, false, false, false, false] rfl rfl (by kernel_rfl) (fun _ _ _ h => h) (Or.inl ⟨by rfl, ?_⟩) ?_ ?_
        rotate_left
        · intro w'
          go_simp
          with_reducible rfl
        rotate_left
        · simp only [Act.put, List.setIfInBounds_toArray, List.set_cons_zero, List.set_cons_succ, i64_w, i32_w]
          rfl
        refine pure_ (i := 9) (N := some 21) (v := ?_) (a' := ?_) #[true, true, true, true, true, true, true, true, true, true, false, false, false, false, false] rfl rfl (by kernel_rfl) (fun _ _ _ h => h) (Or.inl ⟨by rfl, ?_⟩) ?_ ?_
        rotate_left
        · intro w'
          go_simp
          with_reducible rfl
        rotate_left
        · simp only [Act.put, List.setIfInBounds_toArray, List.set_cons_zero, List.set_cons_succ, i64_w, i32_w]
          rfl
        refine take_ (i := 10) (N := some 22) (v := ?_) (a' := ?_) #[true, true, true, true, true, true, true, true, true, true, true, false, false, false, false] rfl rfl (by kernel_rfl) (fun _ _ _ h => h) (Or.inl ⟨by rfl, ?_⟩) hHeld ?_ ?_
        rotate_left
        · rintro w' ⟨s0, s1, s2⟩
          go_simp
          with_reducible rfl
        rotate_left
        · simp only [Act.put, List.setIfInBounds_toArray, List.set_cons_zero, List.set_cons_succ, i64_w, i32_w]
          rfl
        refine pure_ (i := 11) (N := some 23) (v := ?_) (a' := ?_) #[true, true, true, true, true, true, true, true, true, true, true, true, false, false, false] rfl rfl (by kernel_rfl) (fun _ _ _ h => h) (Or.inl ⟨by rfl, ?_⟩) ?_ ?_
        rotate_left
        · intro w'
          go_simp
          with_reducible rfl
        rotate_left
        · simp only [Act.put, List.setIfInBounds_toArray, List.set_cons_zero, List.set_cons_succ, i64_w, i32_w]
          rfl
        refine pure_ (i := 12) (N := some 24) (v := ?_) (a' := ?_) #[true, true, true, true, true, true, true, true, true, true, true, true, true, false, false] rfl rfl (by kernel_rfl) (fun _ _ _ h => h) (Or.inl ⟨by rfl, ?_⟩) ?_ ?_
        rotate_left
        · intro w'
          go_simp
          with_reducible rfl
        rotate_left
        · simp only [Act.put, List.setIfInBounds_toArray, List.set_cons_zero, List.set_cons_succ, i64_w, i32_w]
          rfl
        refine pure_ (i := 13) (N := some 25) (v := ?_) (a' := ?_) #[true, true, true, true, true, true, true, true, true, true, true, true, true, true, false] rfl rfl (by kernel_rfl) (fun _ _ _ h => h) (Or.inl ⟨by rfl, ?_⟩) ?_ ?_
        rotate_left
        · intro w'
          go_simp
          with_reducible rfl
        rotate_left
        · simp only [Act.put, List.setIfInBounds_toArray, List.set_cons_zero, List.set_cons_succ, i64_w, i32_w]
          rfl
        refine pure_ (i := 14) (N := some 3) (v := ?_) (a' := ?_) #[true, true, true, true, true, true, true, true, true, true, true, true, true, true, true] rfl rfl (by kernel_rfl) (fun _ _ _ h => h) (Or.inl ⟨by rfl, ?_⟩) ?_ ?_
        rotate_left
        · intro w'
          go_simp
          with_reducible rfl
        rotate_left
        · simp only [Act.put, List.setIfInBounds_toArray, List.set_cons_zero, List.set_cons_succ, i64_w, i32_w]
          rfl
        refine done_ (by kernel_rfl) ?_
        (try rw [hN2])
        clear hN2 kx ky
        by_cases hc2 : c' = 2
        · subst hc2
          obtain rfl : rest = [] := by have := Hc'.out; simp at this; cases rest with | nil => rfl | cons a b => simp at this
          obtain rfl : N = 0 := by simpa using hNle
          have nil_C : ∀ A, Kd.C kb w0 A ([] : List Int).length [] := fun A => ⟨rfl, by simp, fun h => absurd h (Nat.lt_irrefl 0)⟩
          have hcl := fun (W : World) (h : ∀ k, k < w0.heap.size → W.heap[k]? = w0.heap[k]?) => clone_bytes (some ⟨b, o, none⟩) 0 [] W (Ev.C_keep_ (nil_C _) h) (Nat.le_refl _) (by simp)
          simp only [List.length_nil] at hcl
          gi_wp2
          refine ⟨trivial, callsIn_wide.2 ((hcl _ (by intro k hk; exact (Below.heap_setCell _ ⟨B, 0, none⟩ _ k (show k ≠ B by have := HBn.out; omega)).trans (HBk.out k hk))).mono ?_)⟩
          rintro e w4 ⟨v, rfl, hR, hb4⟩
          have HX4 := blk_below (blk_drew (blk_set HX.out 0 (.slice (some ⟨b, o, none⟩) 0 (0)))) hb4
          have HJ4 : J pre ((wr.setCell ⟨B, 0, none⟩ (.slice (some ⟨b, o, none⟩) 0 (0))).drew) := HJg.out _ _ _ (HJb.out _ _ _ HJ.out) (below_drew1 (Below.refl _ _))
          obtain ⟨fn, tmps, assign, body, hy, hRd⟩ := HYY.out pre [] #[v] _ w4 HJ4 hb4 (by have := congrArg List.length hout; simp at this; omega) ⟨v, rfl, Kd.R_lower (Kd.R_mono (Kd.R_bound hR) (fun k hk => hk.2.1)) (by show w0.heap.size ≤ _; have := HSk.out; simpa using this)⟩
          (try dsimp only at hy)
          have HB4 : Aside0 (∀ k, k < w0.heap.size → w4.heap[k]? = w0.heap[k]?) := ⟨fun k hk => (hb4.block k (by have := HSk.out; simp; omega)).trans ((Below.heap_setCell _ ⟨B, 0, none⟩ _ k (show k ≠ B by have := HBn.out; omega)).trans (HBk.out k hk))⟩
          have HS4 : Aside0 (w0.heap.size ≤ w4.heap.size) := ⟨Nat.le_trans (by have := HSk.out; simpa using this) hb4.size⟩
          clear hR hb4 HJ4
          gi_wp2
          refine hRd.mono ?_
          rintro e W3 ⟨rfl, hJ3, hk3⟩
          have HX3 := (hk3.2 B (.inr rfl)).trans HX4
          have k3 : W3.cell? ⟨B, 0, none⟩ = some (.slice (some ⟨b, o, none⟩) 0 (0)) := (blk_cell HX3 0).trans rfl
          have kf3 := blk_frozen HX3 0
          have HB3 : Aside0 (∀ k, k < w0.heap.size → W3.heap[k]? = w0.heap[k]?) := ⟨fun k hk => (hk3.2 k (.inl hk)).trans (HB4.out k hk)⟩
          have HS3 : Aside0 (w0.heap.size ≤ W3.heap.size) := ⟨Nat.le_trans HS4.out hk3.1⟩
          have HJ3 := Aside0.mk hJ3
          have HX3 := Aside0.mk HX3
          clear hJ3 hk3 HX4
          gi_wp2
          go_roundw
          case rel => exact ⟨some ⟨b, o, none⟩, 0, [], pre ++ [[]], k', tail', ⟨by first | exact blk_set HX3.out 0 _ | (rw [List.length_drop]; exact blk_set HX3.out 0 _)⟩, ⟨nil_C _⟩, ⟨Nat.le_refl _⟩, ⟨fun k hk => (Below.heap_setCell _ ⟨B, 0, none⟩ _ k (show k ≠ B by have := HBn.out; omega)).trans (HB3.out k hk)⟩, ⟨by have := HS3.out; simpa using this⟩, ⟨HJb.out _ _ _ HJ3.out⟩, ⟨⟨by simp, by simp⟩, ht', by simpa using hout⟩⟩
          case measure =>
            have h1 := blk_set HX3.out 0 (.slice (some ⟨b, o, none⟩) ([] : List Int).length (0))
            (try rw [List.length_drop] at h1)
            show boxLen _ < boxLen _
            rw [HX.out]
            first | rw [h1] | (simp only [List.length_nil] at h1; rw [h1])
            show ([] : List Int).length < (x :: y :: ([] : List Int)).length
            simp <;> omega
        · have hA2 : Kd.C kb w0 (some ⟨b, o + 2, none⟩) rest.length rest := by
            have h := Kd.C_drop (m := 2) HC'.out (by simp) Hc'.out
            rw [if_neg hc2] at h
            exact h
          have hcr : rest.length + 2 ≤ c' := Hc'.out
          have hlen : (rest.take N).length = N := by rw [List.length_take]; omega
          have hcl := fun (W : World) (h : ∀ k, k < w0.heap.size → W.heap[k]? = w0.heap[k]?) => clone_bytes (some ⟨b, o + 2, none⟩) (c' - 2) (rest.take N) W (Ev.C_keep_ (Kd.C_take hA2 hNle) h) (by omega) (by rw [hlen]; have := hk.2; simp at this; omega)
          simp only [hlen] at hcl
          have n1 : ((N : Int) ≤ ((c' - 2 : Nat) : Int)) = True := eq_true (by omega)
          have n2 : ((N : Int) ≤ (rest.length : Int)) = True := eq_true (by omega)
          have n3 : (2 ≤ (c' : Int)) = True := eq_true (by omega)
          gi_wp2
          refine ⟨trivial, callsIn_wide.2 ((hcl _ (by intro k hk; exact (Below.heap_setCell _ ⟨B, 0, none⟩ _ k (show k ≠ B by have := HBn.out; omega)).trans (HBk.out k hk))).mono ?_)⟩
          rintro e w4 ⟨v, rfl, hR, hb4⟩
          have HX4 := blk_below (blk_drew (blk_set HX.out 0 (.slice (some ⟨b, o + 2, none⟩) rest.length (c' - 2)))) hb4
          have HJ4 : J pre ((wr.setCell ⟨B, 0, none⟩ (.slice (some ⟨b, o + 2, none⟩) rest.length (c' - 2))).drew) := HJg.out _ _ _ (HJb.out _ _ _ HJ.out) (below_drew1 (Below.refl _ _))
          obtain ⟨fn, tmps, assign, body, hy, hRd⟩ := HYY.out pre (rest.take N) #[v] _ w4 HJ4 hb4 (by have := congrArg List.length hout; simp at this; omega) ⟨v, rfl, Kd.R_lower (Kd.R_mono (Kd.R_bound hR) (fun k hk => hk.2.1)) (by show w0.heap.size ≤ _; have := HSk.out; simpa using this)⟩
          (try dsimp only at hy)
          have HB4 : Aside0 (∀ k, k < w0.heap.size → w4.heap[k]? = w0.heap[k]?) := ⟨fun k hk => (hb4.block k (by have := HSk.out; simp; omega)).trans ((Below.heap_setCell _ ⟨B, 0, none⟩ _ k (show k ≠ B by have := HBn.out; omega)).trans (HBk.out k hk))⟩
          have HS4 : Aside0 (w0.heap.size ≤ w4.heap.size) := ⟨Nat.le_trans (by have := HSk.out; simpa using this) hb4.size⟩
          clear hR hb4 HJ4
          gi_wp2
          refine hRd.mono ?_
          rintro e W3 ⟨rfl, hJ3, hk3⟩
          have HX3 := (hk3.2 B (.inr rfl)).trans HX4
          have k3 : W3.cell? ⟨B, 0, none⟩ = some (.slice (some ⟨b, o + 2, none⟩) rest.length (c' - 2)) := (blk_cell HX3 0).trans rfl
          have kf3 := blk_frozen HX3 0
          have HB3 : Aside0 (∀ k, k < w0.heap.size → W3.heap[k]? = w0.heap[k]?) := ⟨fun k hk => (hk3.2 k (.inl hk)).trans (HB4.out k hk)⟩
          have HS3 : Aside0 (w0.heap.size ≤ W3.heap.size) := ⟨Nat.le_trans HS4.out hk3.1⟩
          have HJ3 := Aside0.mk hJ3
          have HX3 := Aside0.mk HX3
          clear hJ3 hk3 HX4
          have hA3 := Kd.C_drop hA2 hNle (show rest.length ≤ c' - 2 by omega)
          by_cases hc3 : c' - 2 = N
          · rw [if_pos hc3] at hA3
            gi_wp2
            go_roundw
            case rel => exact ⟨some ⟨b, o + 2, none⟩, 0, rest.drop N, pre ++ [rest.take N], k', tail', ⟨by first | exact blk_set HX3.out 0 _ | (rw [List.length_drop]; exact blk_set HX3.out 0 _)⟩, ⟨hA3⟩, ⟨by rw [List.length_drop]; omega⟩, ⟨fun k hk => (Below.heap_setCell _ ⟨B, 0, none⟩ _ k (show k ≠ B by have := HBn.out; omega)).trans (HB3.out k hk)⟩, ⟨by have := HS3.out; simpa using this⟩, ⟨HJb.out _ _ _ HJ3.out⟩, ⟨⟨by have := hk.1; simp at this ⊢; omega, by have := hk.2; simp at this ⊢; omega⟩, ht', by simpa using hout⟩⟩
            case measure =>
              have h1 := blk_set HX3.out 0 (.slice (some ⟨b, o + 2, none⟩) (rest.drop N : List Int).length (0))
              (try rw [List.length_drop] at h1)
              show boxLen _ < boxLen _
              rw [HX.out]
              first | rw [h1] | (simp only [List.length_nil] at h1; rw [h1])
              show rest.length - N < (x :: y :: rest).length
              simp <;> omega
          · rw [if_neg hc3] at hA3
            have hA3 : Kd.C kb w0 (some ⟨b, o + 2 + N, none⟩) (rest.drop N).length (rest.drop N) := by
              have e : (some (⟨b, o + 2, none⟩ : Addr)).map (·.add (N * kb.sz)) = some ⟨b, o + 2 + N, none⟩ := by
                show some ((⟨b, o + 2, none⟩ : Addr).add (N * 1)) = _
                rw [Nat.mul_one, Addr.add_lit]
              rw [e] at hA3
              exact hA3
            gi_wp2
            go_roundw
            case rel => exact ⟨some ⟨b, o + 2 + N, none⟩, c' - 2 - N, rest.drop N, pre ++ [rest.take N], k', tail', ⟨by first | exact blk_set HX3.out 0 _ | (rw [List.length_drop]; exact blk_set HX3.out 0 _)⟩, ⟨hA3⟩, ⟨by rw [List.length_drop]; omega⟩, ⟨fun k hk => (Below.heap_setCell _ ⟨B, 0, none⟩ _ k (show k ≠ B by have := HBn.out; omega)).trans (HB3.out k hk)⟩, ⟨by have := HS3.out; simpa using this⟩, ⟨HJb.out _ _ _ HJ3.out⟩, ⟨⟨by have := hk.1; simp at this ⊢; omega, by have := hk.2; simp at this ⊢; omega⟩, ht', by simpa using hout⟩⟩
            case measure =>
              have h1 := blk_set HX3.out 0 (.slice (some ⟨b, o + 2 + N, none⟩) (rest.drop N : List Int).length (c' - 2 - N))
              (try rw [List.length_drop] at h1)
              show boxLen _ < boxLen _
              rw [HX.out]
              first | rw [h1] | (simp only [List.length_nil] at h1; rw [h1])
              show rest.length - N < (x :: y :: rest).length
              simp <;> omega
theorem cutO_len : ∀ (k : Nat) (l : List Int) (r : List (List Int)), cutO k l = some r → r.length ≤ l.length
  | 0, l, r, h => by simp [cutO] at h; subst h; simp
  | k + 1, [], r, h => by simp [cutO] at h; subst h; simp
  | k + 1, [x], r, h => by simp [cutO] at h; subst h; simp
  | k + 1, x :: y :: l, r, h => by
    rw [cutO] at h
    split at h
    · obtain ⟨r', h', rfl⟩ := Option.map_eq_some_iff.1 h
      have := cutO_len k _ _ h'
      rw [List.length_drop] at this
      simp only [List.length_cons]
      omega
    · cases h
theorem kp_trans {n0 B : Nat} {X Y Z : World} (h : KpB n0 B X Y) (k : KpB n0 B Y Z) : KpB n0 B X Z := ⟨Nat.le_trans h.1 k.1, fun i hi => (k.2 i hi).trans (h.2 i hi)⟩
theorem kp_put {n0 B m : Nat} (hB : B < m) (hn : n0 ≤ m) (W : World) (l : Nat) (o o' : Obj) (hl : m ≤ l) (_h : W.heap[l]? = some o) (_hc : o.isCells = false) : KpB n0 B W (W.putObj l o') :=
  ⟨by simp [World.putObj], fun k hk => World.putObj_heap_other (by omega)⟩
theorem handed_put {n0 m : Nat} {x : List Int} {W : World} {vs : Array Value} {l : Nat} {o o' : Obj} (h : handed n0 m x W vs) (hl : W.heap[l]? = some o) (hc : o.isCells = false) : handed n0 m x (W.putObj l o') vs := by
  obtain ⟨v, e, hR⟩ := h
  refine ⟨v, e, Kd.R_mono (Kd.R_move (Kd.R_bound hR) (fun k hk => World.putObj_heap_other ?_)) (fun _ hk => hk.1)⟩
  obtain ⟨_, _, _, q, _, cells, hq⟩ := hk
  rintro rfl
  rw [hq] at hl
  obtain rfl := Option.some.inj hl
  cases hc
/-- The rows that came so far, in the box that Cut has for them; no two lead to one block; the iterator's box lies behind it. -/
def gath (P : Nat → Prop) (w : World) (pre : List (List Int)) (W : World) : Prop := (∃ v, W.heap[w.heap.size]? = some (.cells #[v] 43 (0, 0)) ∧ Kd.S kbs 41 W w.heap.size (fun k => (k ≠ w.heap.size ∧ k ≠ w.heap.size + 1) ∧ P k) v pre) ∧ (∃ cs, W.heap[w.heap.size + 1]? = some (.cells cs 41 (0, 0))) ∧ Below w.heap.size w W
theorem gath_of {P : Nat → Prop} {w W W' : World} {pre : List (List Int)} (h : gath P w pre W) (hk : ∀ (k : Nat) (cs : Array Value) (t : TypeId), k ≠ w.heap.size + 1 → W.heap[k]? = some (.cells cs t (0, 0)) → W'.heap[k]? = W.heap[k]?) (hB : ∀ cs, W.heap[w.heap.size + 1]? = some (.cells cs 41 (0, 0)) → ∃ cs', W'.heap[w.heap.size + 1]? = some (.cells cs' 41 (0, 0))) (hb : Below w.heap.size W W') : gath P w pre W' := by
  obtain ⟨⟨v, h1, h2⟩, ⟨cs, hc⟩, h3⟩ := h
  refine ⟨⟨v, (hk _ _ _ (by omega) h1).trans h1, Kd.S_mono (Kd.S_move (Kd.S_bound h2) (fun k hk' => ?_)) (fun _ hk' => hk'.1)⟩, hB cs hc, h3.trans hb⟩
  obtain ⟨h4, _, _, q, _, cells, hq⟩ := hk'
  exact hk k _ _ h4.1.2 hq
theorem gath_own (P : Nat → Prop) (w : World) (m : Nat) (hm : w.heap.size ≤ m) : OwnFrom m (gath P w) := by
  intro s A B row hs hg hr
  have hkeep : ∀ (k : Nat) (cs : Array Value) (t : TypeId), A.heap[k]? = some (.cells cs t (0, 0)) → B.heap[k]? = A.heap[k]? := by
    intro k cs t hk
    refine hg.block k (blk_lt hk) (fun e => ?_)
    obtain ⟨_, o, ho, hc⟩ := hr k e.symm
    rw [hk] at ho
    obtain rfl := Option.some.inj ho
    cases hc
  exact gath_of hs (fun k cs t _ hk => hkeep k cs t hk) (fun cs hc => ⟨cs, (hkeep _ _ _ hc).trans hc⟩) ((Below.refl _ A).grown hg (by have := hs.2.2.size; exact this) (fun k e => by obtain ⟨h, _⟩ := hr k e; omega))
theorem gath_grow (P : Nat → Prop) (w : World) (s : List (List Int)) (A A' : World) (h : gath P w s A) (hb : Below A.heap.size A A') : gath P w s A' :=
  gath_of h (fun k cs t _ hk => hb.block k (blk_lt hk)) (fun cs hc => ⟨cs, blk_below hc hb⟩) (hb.mono h.2.2.size)
theorem gath_box (P : Nat → Prop) (w : World) (s : List (List Int)) (A : World) (v : Value) (h : gath P w s A) : gath P w s (A.setCell ⟨w.heap.size + 1, 0, none⟩ v) :=
  gath_of h (fun k cs t hk _ => Below.heap_setCell A ⟨w.heap.size + 1, 0, none⟩ v k hk) (fun cs hc => ⟨_, blk_set hc 0 v⟩) ((Below.refl _ A).setCell (p := ⟨w.heap.size + 1, 0, none⟩) (by simp) v)
theorem gath_bound {P : Nat → Prop} {w W : World} {pre : List (List Int)} (h : gath P w pre W) : gath (fun k => k < W.heap.size) w pre W := by
  obtain ⟨⟨v, h1, h2⟩, h3⟩ := h
  exact ⟨⟨v, h1, Kd.S_mono (Kd.S_bound h2) (fun k hk => ⟨hk.1.1, hk.2.2.1⟩)⟩, h3⟩
attribute [local go_sem] Oper.semAt_some
set_option maxHeartbeats 8000000 in
set_option maxRecDepth 100000 in
theorem event_Cut.calls (A0 : Option Addr) (c0 : Nat) (l0 : List Int) (r : List (List Int)) (w : World) (hr0 : Kd.C (Kd.int .u8) w A0 l0.length l0) (hc0 : l0.length ≤ c0) (h : event_Cut.f l0 = some r) :
    Calls Tryd.prog 23 #[.slice A0 l0.length c0] w fun e w' => ∃ v0_ : Value, e = .returned v0_ ∧ Kd.S (Kd.slice 5 (Kd.int .u8)) 41 w' w.heap.size (fun k_ => w.heap.size ≤ k_) v0_ r ∧ Below w.heap.size w w' := by
  unfold event_Cut.f at h
  split at h
  case isFalse => cases h
  rename_i hb
  have hlen := cutO_len _ _ _ h
  refine (callsIn_wide (n := 6)).1 ?_
  refine callsIn_of_wp_marks Tryd.func23 rfl trivial ?_ rfl
  simp only [Tryd.ntmps23, List.size_toArray, List.length_cons, List.length_nil, Nat.reduceAdd, Nat.reduceSub, Array.replicate_succ, Array.replicate_zero, List.push_toArray, List.append_toArray, List.nil_append, List.cons_append]
  gi_wp2
  refine ⟨trivial, callsIn_wide.2 ((pieces_walk A0 l0.length c0 _).mono ?_)⟩
  rintro e w2 ⟨rfl, rfl⟩
  gi_wp2
  have hEnt := enters_of Tryd.func79 (by kernel_rfl) rfl
  have hbx0 : ((w.alloc (.cells #[.slice none 0 0] 43)).alloc (.cells #[.slice A0 l0.length c0] 41)).heap[w.heap.size]? = some (.cells #[.slice none 0 0] 43 (0, 0)) := blk_alloc (blk_new _ _) _
  have hbx1 : ((w.alloc (.cells #[.slice none 0 0] 43)).alloc (.cells #[.slice A0 l0.length c0] 41)).heap[w.heap.size + 1]? = some (.cells #[.slice A0 l0.length c0] 41 (0, 0)) := by
    have h1 := blk_new (w.alloc (.cells #[.slice none 0 0] 43)) (.cells #[.slice A0 l0.length c0] 41 (0, 0))
    rwa [World.size_alloc] at h1
  have hB0 : Below w.heap.size w ((w.alloc (.cells #[.slice none 0 0] 43)).alloc (.cells #[.slice A0 l0.length c0] 41)) := below_alloc (below_alloc (Below.refl _ _) _) _
  have u43 := Tryd.underlying43
  refine Ev.wpIn_rangeFunc_box rfl (by decide) (gf := 79) (lb := #[.pointer (some ⟨w.heap.size + 1, 0, none⟩)]) rfl trivial hEnt
    (pieces1_box (w.heap.size + 1) w _ A0 c0 l0 r hr0 hc0 hB0 (by omega) hbx1 hb h) (by simp) kp_trans (kp_put (by simp) (by simp; omega)) (Below.refl _ _) (fun m x W vs hv => by obtain ⟨v, rfl, _⟩ := hv; rfl) (fun m x W vs l o o' hv hl hc => handed_put hv hl hc)
    (gath (fun _ => True) w) (gath_own _ w _ (by simp; omega)) (gath_grow _ w) (gath_box _ w) (fun m => gath (fun k => k < m) w) (fun pre A A' h hb => gath_grow _ w pre A A' (gath_bound h) hb) (fun m => gath_own _ w _ (by simp; omega)) ⟨⟨_, hbx0, Kd.S_nil _ _ _ _ _⟩, ⟨_, hbx1⟩, hB0⟩
    (fun vs => { tmps := #[.slice A0 l0.length c0, undef, .slice none 0 0, .pointer (some ⟨w.heap.size, 0, none⟩), vs.getD 0 undef, .slice A0 l0.length c0, .func (.func 79) #[] #[.pointer (some ⟨w.heap.size + 1, 0, none⟩)], vs.getD 0 undef, undef, undef, undef, undef, undef, undef], defers := [] }) ?assign ?body ?done
  case assign =>
    rintro l m x vs W K ⟨v, rfl, hRv⟩ hK
    obtain ⟨A1, c1, rfl⟩ := Kd.R_slice hRv
    gi_wp2
    exact hK
  case body =>
    rintro l m pre x vs W ⟨⟨u, hbx, hRu⟩, ⟨cs, hbc⟩, hbl⟩ hN ⟨v, rfl, hRv⟩
    obtain ⟨A1, c1, rfl⟩ := Kd.R_slice hRv
    obtain ⟨A2, c2, rfl⟩ := Kd.R_slice (Kd.S_R hRu)
    show Code.wpIn _ _ _ _ _ { tmps := #[.slice A0 l0.length c0, undef, .slice none 0 0, .pointer (some ⟨w.heap.size, 0, none⟩), .slice A1 x.length c1, .slice A0 l0.length c0, .func (.func 79) #[] #[.pointer (some ⟨w.heap.size + 1, 0, none⟩)], .slice A1 x.length c1, undef, undef, undef, undef, undef, undef], defers := [] } W
    have q0 : W.cell? ⟨w.heap.size, 0, none⟩ = some (.slice A2 pre.length c2) := (blk_cell hbx 0).trans rfl
    have hsz := hbl.size
    have hRv2 : Kd.R kb 5 W w.heap.size (fun k => m ≤ k ∧ (((k ≠ w.heap.size ∧ k ≠ w.heap.size + 1) ∧ True) ∧ some k ≠ (Value.slice A2 pre.length c2).ownBlock)) (.slice A1 x.length c1) x :=
      Kd.R_mono (Kd.R_apartR (Kd.R_types (Kd.R_types hRv hbx (by decide)) hbc (by decide)) (Kd.S_R hRu) (by decide)) (fun k hk => ⟨hk.1.1.1, ⟨⟨hk.1.1.2, hk.1.2⟩, trivial⟩, hk.2⟩)
    have hRu2 : Kd.S kbs 41 W w.heap.size (fun k => ((k ≠ w.heap.size ∧ k ≠ w.heap.size + 1) ∧ True) ∧ ¬ (m ≤ k ∧ (((k ≠ w.heap.size ∧ k ≠ w.heap.size + 1) ∧ True) ∧ some k ≠ (Value.slice A2 pre.length c2).ownBlock))) (.slice A2 pre.length c2) pre :=
      Kd.S_mono hRu (fun k hk => ⟨⟨hk.1, trivial⟩, fun h => by have := hk.2; omega⟩)
    have HBX := Aside0.mk hbx
    have HRU := Aside0.mk hRu2
    have HBC := Aside0.mk hbc
    have HBL := Aside0.mk hbl
    have HRV := Aside0.mk hRv2
    have hlen24 : (pre.length + 1) * 24 ≤ 140737488355328 := by omega
    clear hbx hRu hbc hbl hRv hRv2 hRu2
    gi_wp2_with (gi_at_builtin; refine Ev.append_inS kbs w.heap.size rfl _ _ 43 41 (.slice none 0 0) 24 rfl u43 (by kernel_rfl) rfl (by decide) (by decide) (.slice A2 pre.length c2) pre x [.slice A1 x.length c1] (fun k => (k ≠ w.heap.size ∧ k ≠ w.heap.size + 1) ∧ True) _ rfl rfl ⟨_, rfl, HRV.out⟩ (fun k hk => hk.2) ?hfresh HRU.out ?hbase hlen24 ?_)
    case hfresh =>
      intro k hk
      have h1 := blk_lt HBC.out
      have h2 : k ≠ w.heap.size := by omega
      have h3 : k ≠ w.heap.size + 1 := by omega
      first | exact ⟨⟨h2, h3⟩, trivial⟩ | exact ⟨h2, h3⟩
    case hbase => omega
    intro v1 w1 hR1 hg1
    obtain ⟨A3, c3, rfl⟩ := Kd.R_slice (Kd.S_R hR1)
    have BX : Boxed W w.heap.size 43 (.slice A2 pre.length c2) := HBX.out
    obtain ⟨inner, hown⟩ := Kd.S_own HRU.out
    obtain ⟨inner', hown'⟩ := Kd.S_own hR1
    obtain ⟨b1, b2, b3, b4, b5⟩ := Boxed.appended BX (by decide) hown hsz (Nat.le_refl _) hown' hg1
    have q1 := b1.cell
    have f1 := b1.frozen
    have hkB : some (w.heap.size + 1) ≠ (Value.slice A2 pre.length c2).ownBlock := fun e => ((Kd.S_R HRU.out).1 _ e.symm).1.1.2 rfl
    have hltB := blk_lt HBC.out
    have hcB : (w1.setCell ⟨w.heap.size, 0, none⟩ (.slice A3 (pre ++ [x]).length c3)).heap[w.heap.size + 1]? = W.heap[w.heap.size + 1]? :=
      (Below.heap_setCell w1 ⟨w.heap.size, 0, none⟩ _ _ (by show w.heap.size + 1 ≠ w.heap.size; omega)).trans ((hg1.block _ (by rw [World.size_alloc]; omega) hkB).trans ((below_alloc (Below.refl W.heap.size W) _).block _ hltB))
    have hR2 := Kd.S_far hR1 (p := ⟨w.heap.size, 0, none⟩) (fun k hk => by first | exact hk.1.1 | exact hk.1) (.slice A3 (pre ++ [x]).length c3)
    have HB4 := Aside0.mk b4
    have HB5 := Aside0.mk b5
    have HB2 := Aside0.mk b2
    have HCB := Aside0.mk hcB
    have HR2 := Aside0.mk hR2
    have hl1 : (pre ++ [x]).length = pre.length + 1 := by simp
    rw [hl1] at HB4 HB5 HB2 HCB HR2
    clear b1 b2 b3 b4 b5 hcB hR2 hR1 hg1 hown hown' BX hkB hltB
    gi_wp2
    exact ⟨HB4.out, ⟨HB5.out.size, fun k hk => hk.elim (fun h => HB5.out.block k h) (fun h => by rw [h]; exact HCB.out)⟩, ⟨_, HB2.out, Kd.S_mono HR2.out (fun k hk => by first | exact hk | exact ⟨hk, trivial⟩)⟩, ⟨cs, HCB.out.trans HBC.out⟩, HBL.out.trans HB5.out⟩
  case done =>
    rintro D xs W hD rfl ⟨⟨v, hbx, hR⟩, ⟨cs, hbc⟩, hbl⟩ hK
    obtain ⟨A2, c2, rfl⟩ := Kd.R_slice (Kd.S_R hR)
    have q0 : W.cell? ⟨w.heap.size, 0, none⟩ = some (.slice A2 xs.length c2) := (blk_cell hbx 0).trans rfl
    obtain ⟨f, hfR⟩ := hR
    have hcl := clone_any (Kd.tag f kbs) ⟨rfl⟩ _ xs.zipIdx w.heap.size _ W hbl.size hfR (by rw [List.length_zipIdx]; omega)
    gi_wp2
    refine ⟨trivial, callsIn_wide.2 (hcl.mono ?_)⟩
    rintro e w4 ⟨v', rfl, hR', hb4⟩
    have hS' : Kd.S kbs 41 w4 w.heap.size (fun _ => True) v' xs := ⟨f, hR'⟩
    obtain ⟨A3, c3, rfl⟩ := Kd.R_slice (Kd.S_R hS')
    have hK4 : w4.heap[D]? = some (.deferred (some [])) := (hb4.block D (Array.getElem?_eq_some_iff.1 hK).1).trans hK
    gi_wp2
    refine ⟨by simp, .inl ⟨_, _, rfl, run_takeDeferred hK4, ?_⟩⟩
    have hD' : w.heap.size ≤ D := by simp at hD; omega
    have hput : ∀ (k : Nat) (cs : Array Value) (q : TypeId), w4.heap[k]? = some (.cells cs q (0, 0)) → (w4.putObj D (.deferred none)).heap[k]? = w4.heap[k]? := fun k cs q hk => World.putObj_heap_other (by rintro rfl; rw [hk] at hK4; cases hK4)
    refine ⟨.slice A3 xs.length c3, ?_, ⟨_, rfl, Kd.S_mono (Kd.S_move (Kd.S_bound hS') (fun k hk => by obtain ⟨_, _, _, q, _, cells, hq⟩ := hk; exact hput k _ _ hq)) (fun _ hk => hk.2.1), (hbl.trans (hb4.mono hbl.size)).trans (belowK_b (w := w) (Nat.le_refl _) w4 D _ _ hD' hK4 rfl rfl)⟩⟩
    simp [results, Tryd.f23, go_sem]

end Go.Proofs.YtalpoojepffldaaDoor.Ma
