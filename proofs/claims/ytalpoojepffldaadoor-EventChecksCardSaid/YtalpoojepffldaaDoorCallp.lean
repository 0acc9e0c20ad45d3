/- A call that always answers one value and leaves the world as it was may be taken first in a region that draws its order; and what 'within' answers, as one word.
   Conditions: none. -/
import Derived.Test.YtalpoojepffldaaDoorWWords
import Derived.Test.YtalpoojepffldaaDoorWLast
import Derived.Test.YtalpoojepffldaaDoorWMore
namespace Go.Proofs.YtalpoojepffldaaDoor
open Go.RowKit Go.Proofs.YtalpoojepffldaaDoorW.PrintWords Go.Proofs.YtalpoojepffldaaDoorW.PrintLast

/-- What 'within' answers: the rest of a division, lifted where it is below none. -/
def wi (a b : Int) : Int := if Int.tmod a b < 0 then wrap64 (Int.tmod a b + b) else Int.tmod a b

theorem wi_ne {b : Int} (h : (b == 0) = false) : b ≠ 0 := by simpa using h
theorem wi_ne' {b : Int} (h : (b != 0) = true) : b ≠ 0 := by simpa using h
theorem wi_bd {a b j : Int} (h : wi a b = j) (hb : 0 < b) (hb2 : b ≤ 9223372036854775807) : 0 ≤ j ∧ j ≤ b - 1 := by
  subst h
  unfold wi
  have h1 := Int.tmod_lt_of_pos a hb
  have h2 : -b < Int.tmod a b := by
    have := Int.neg_lt_of_neg_lt (a := b) (b := Int.tmod a b)
    have h3 := Int.tmod_lt_of_pos (-a) hb
    rw [Int.neg_tmod] at h3
    omega
  split
  · unfold wrap64; omega
  · omega

section
variable {P : Program} {ops : Array Oper} {Q : Exit → Act → World → Prop} {md : Region.Mode} {S : World → Prop} {ds : List Nat}

/-- In whatever state that shows the operation the same operands, it leaves v and nothing else. -/
def Steady (P : Program) (ops : Array Oper) (o : Oper) (v : Value) (a : Act) : Prop :=
  Region.wanted o (yielded ops a.tmps) = true ∧ ∀ (a' : Act) (w : World) (K : Act → World → Prop) (Q : Exit → Act → World → Prop),
    execOp a'.eval o = execOp a.eval o → K (a'.put o.dst v) w → Oper.wp P o a' w K Q

theorem Steady.runs {i : Nat} {o : Oper} {v : Value} {a : Act} (hi : ops[i]? = some o) (hy : Steady P ops o v a) {K : Act → World → Prop} {w : World} (h : K (a.put o.dst v) w) : wpOp P ops Q i K a w := by
  unfold Go.wpOp
  simp only [hi, hy.1, if_true]
  exact .inl (hy.2 a w K Q rfl h)

theorem Steady.same {o : Oper} {v : Value} {a a' : Act} (hy : Steady P ops o v a) (he : execOp a'.eval o = execOp a.eval o)
    (hw : Region.wanted o (yielded ops a'.tmps) = Region.wanted o (yielded ops a.tmps)) : Steady P ops o v a' :=
  ⟨hw.trans hy.1, fun a2 w K Q h1 h2 => hy.2 a2 w K Q (h1.trans he) h2⟩

theorem steady_put {j : Nat} {oi oj : Oper} {v : Value} (hj : ops[j]? = some oj) (hap : oi.apart ops oj = true)
    (hsi : ∀ cs b, oi.op ≠ .select cs b) (hsj : ∀ cs b, oj.op ≠ .select cs b)
    (hQ : ∀ c a w, Q (.panic c) (a.put oi.dst v) w → Q (.panic c) a w) {K : Act → World → Prop} {a : Act} {w : World}
    (hy : Steady P ops oi v a) (h : wpOp P ops Q j K (a.put oi.dst v) w) :
    wpOp P ops Q j (fun a' w' => Steady P ops oi v a' ∧ K (a'.put oi.dst v) w') a w := by
  obtain ⟨h1, h2, h3⟩ := Oper.apart_spec hap
  have put (u : Value) : Steady P ops oi v (a.put oj.dst u) := hy.same (execOp_put oi hsi a oj.dst u h3) (wanted_put oi a oj.dst u h3)
  unfold wpOp at *
  simp only [hj] at *
  rw [wanted_put oj a oi.dst v h1] at h
  by_cases hw : Region.wanted oj (yielded ops a.tmps) = true
  · simp only [hw, if_true] at h ⊢
    rcases h with h | ⟨ha, hl⟩
    · refine .inl ?_
      unfold Oper.wp at *
      rw [execOp_put oj hsj a oi.dst v h1] at h
      generalize (execOp a.eval oj).run P w = r at *
      cases r with
      | ok n w' =>
        cases n <;> simp only [Oper.upon] at h ⊢
        case value u => rw [Act.put_comm a v u h2] at h; exact ⟨put u, h⟩
        case skip => rw [Act.put_comm a v undef h2] at h; exact ⟨put _, h⟩
        case defer d =>
          rw [Act.put_defers, Act.put_comm _ v undef h2] at h
          exact ⟨(hy.same (a' := { a with defers := d :: a.defers }) rfl rfl).same (execOp_put oi hsi _ oj.dst undef h3) (wanted_put oi _ oj.dst undef h3), h⟩
        case enter f args =>
          refine Calls.mono h fun e w2 he => ?_
          cases e with
          | returned u => exact ⟨put u, by rw [← Act.put_comm a v u h2]; exact he⟩
          | panicked c => exact hQ _ _ _ he
          | outgrown => exact he
        case row row args => exact Rows.mono h fun u w2 he => by rw [Act.put_comm a v u h2] at he; exact ⟨put u, he⟩
      | halt x w' =>
        cases x <;> simp only [Oper.upon] at h ⊢
        case panic u => exact hQ _ _ _ h
    · refine .inr ⟨?_, hl⟩
      unfold Oper.asks at *
      rw [execOp_put oj hsj a oi.dst v h1] at ha
      exact ha
  · simp only [hw] at h ⊢
    simp only [Bool.false_eq_true, if_false] at h ⊢
    rw [Act.put_comm a v undef h2] at h
    exact ⟨put _, h⟩

theorem steady_first {i : Nat} {oi : Oper} {v : Value} (hi : ops[i]? = some oi) (hsel : ∀ (j : Nat) (o : Oper) cs b, ops[j]? = some o → o.op ≠ .select cs b)
    (hQ : ∀ c a w, Q (.panic c) (a.put oi.dst v) w → Q (.panic c) a w) :
    ∀ (fuel : Nat) (listed : Array Bool) (a : Act) (w : World),
      (∀ j oj, ops[j]? = some oj → j ≠ i → listed.getD j true = false → (∀ e ∈ oj.after, Region.binds md e = true → e.on ≠ i) → oi.apart ops oj = true) →
      i ∈ Region.ready md ops listed → Steady P ops oi v a →
      wpAnyLast P md ops Q S ds fuel (listed.setIfInBounds i true) (a.put oi.dst v) w → wpAnyLast P md ops Q S ds (fuel + 1) listed a w := by
  intro fuel
  induction fuel with
  | zero =>
    intro listed a w _ hr hy H
    refine ⟨fun h => (by rw [h] at hr; cases hr), fun j hj => ?_⟩
    by_cases hji : j = i
    · subst hji; exact hy.runs hi ⟨fun _ h => h, H⟩
    · have h0 := ready_mono hj hji
      rw [H.1] at h0
      cases h0
  | succ fuel ih =>
    intro listed a w hfree hr hy H
    refine ⟨fun h => (by rw [h] at hr; cases hr), fun j hj => ?_⟩
    by_cases hji : j = i
    · subst hji; exact hy.runs hi ⟨fun _ h => h, H⟩
    · obtain ⟨hjun, oj, hoj, hall⟩ := mem_ready.1 hj
      have hiun := (mem_ready.1 hr).1
      have hnot : ∀ e ∈ oj.after, Region.binds md e = true → e.on ≠ i := by
        intro e he hb heq
        have h0 := hall e he hb
        subst heq
        rcases Nat.lt_or_ge e.on listed.size with hl | hl
        · simp [hl] at hiun h0
          rw [hiun] at h0
          cases h0
        · simp [Array.getElem?_eq_none hl] at h0
      refine wpOp_mono (fun a' w' h3 => ⟨h3.2.1, ih (listed.setIfInBounds j true) a' w' (fun k ok hk hki hun hno => ?_) (ready_mono hr (Ne.symm hji)) h3.1 ?_⟩)
        (steady_put hoj (hfree j oj hoj hji hjun hnot) (fun cs b => hsel i oi cs b hi) (fun cs b => hsel j oj cs b hoj) hQ hy (H.2 j (ready_mono hj hji)))
      · refine hfree k ok hk hki ?_ hno
        by_cases hjk : j = k
        · subst hjk; exact hjun
        · rw [getD_set_ne true hjk] at hun; exact hun
      · rw [Array.setIfInBounds_comm _ _ hji]
        exact h3.2.2

theorem steady_call {oi : Oper} {v : Value} {a : Act} {f : FuncId} {fn : Func} {as : Array Operand} {ts : Array TypeId} {args : Array Value} (hw : Region.wanted oi (yielded ops a.tmps) = true)
    (hf : P.funcs[f]? = some fn) (hname : (fn.name == "runtime.NumGoroutine") = false) (hb : fn.body.isSome = true)
    (hop : oi.op = .call { callee := .value (.func f), args := as, argTypes := ts }) (hargs : as.map a.eval = args)
    (hcall : ∀ w, Calls P f args w fun e w' => e = .returned v ∧ w' = w) : Steady P ops oi v a := by
  refine ⟨hw, fun a' w K Q he hK => ?_⟩
  have hrun : (execOp a'.eval oi).run P w = .ok (.enter f args) w := by
    rw [he]
    unfold execOp
    simp [hop, resolve, Deferred.ofValue, invoke, Act.eval, hargs, enters_ hf hname hb args w]
  unfold Oper.wp
  rw [hrun, Oper.upon_enter]
  refine (hcall w).mono fun e w2 ⟨h1, h2⟩ => ?_
  subst h1 h2
  exact hK

/-- A call of 'within', taken first. -/
theorem callp_ {i : Nat} {N : Option Tmp} {oi : Oper} {fuel : Nat} {l : Array Bool} {a : Act} {w : World} {f : FuncId} {fn : Func} {as : Array Operand} {ts : Array TypeId} {A B j : Int} (l' : Array Bool) (hi : ops[i]? = some oi) (hN : oi.dst = N) (hc : anyB md ops l l' i = true)
    (hQ : ∀ c a w, Q (.panic c) (a.put oi.dst (.int .i64 j)) w → Q (.panic c) a w) (hw : Region.wanted oi (yielded ops a.tmps) = true)
    (hf : P.funcs[f]? = some fn) (hname : (fn.name == "runtime.NumGoroutine") = false) (hb : fn.body.isSome = true)
    (hop : oi.op = .call { callee := .value (.func f), args := as, argTypes := ts }) (hargs : as.map a.eval = #[.int .i64 A, .int .i64 B])
    (hcall : ∀ w, Calls P f #[.int .i64 A, .int .i64 B] w fun e w' => e = .returned (.int .i64 j) ∧ w' = w) {a' : Act} (ha : a.put N (.int .i64 j) = a')
    (h : wpAnyLast P md ops Q S ds fuel l' a' w) : wpAnyLast P md ops Q S ds (fuel + 1) l a w := by
  subst ha
  subst hN
  simp only [anyB, Bool.and_eq_true, beq_iff_eq] at hc
  obtain ⟨⟨⟨h1, h2⟩, h3⟩, h6⟩ := hc
  subst h6
  exact steady_first hi (Region.noSelect_spec h1) hQ fuel l a w (Region.free_spec hi h2) (by simpa using h3) (steady_call hw hf hname hb hop hargs hcall) h
end
end Go.Proofs.YtalpoojepffldaaDoor
