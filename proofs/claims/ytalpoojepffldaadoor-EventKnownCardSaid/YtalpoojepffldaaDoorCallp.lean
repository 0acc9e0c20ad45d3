/- A call that always answers one value and leaves the world as it was may be taken first in a region that draws its order; and what 'within' answers, as one word.
   Conditions: none. -/
import Derived.Test.YtalpoojepffldaaDoorWWords
import Derived.Test.YtalpoojepffldaaDoorWLast
import Derived.Test.YtalpoojepffldaaDoorWMore
namespace Go.Proofs.YtalpoojepffldaaDoor
open Go.RowKit Go.Proofs.YtalpoojepffldaaDoorW.PrintWords Go.Proofs.YtalpoojepffldaaDoorW.PrintLast

/-- What 'within' answers: the rest of a division, lifted where it is below none. -/
def wi (a b : Int) : Int := if Int.tmod a b < 0 then wrap64 (Int.tmod a b + b) else Int.tmod a b

theorem wi_ne {b : Int} (h : (b == 0) = false) : b ≠ 0 := by simpa using h
theorem wi_ne' {b : Int} (h : (b != 0) = true) : b ≠ 0 := by simpa using h
theorem wi_bd {a b j : Int} (h : wi a b = j) (hb : 0 < b) (hb2 : b ≤ 9223372036854775807) : 0 ≤ j ∧ j ≤ b - 1 := by
  subst h
  unfold wi
  have h1 := Int.tmod_lt_of_pos a hb
  have h2 : -b < Int.tmod a b := by
    have := Int.neg_lt_of_neg_lt (a := b) (b := Int.tmod a b)
    have h3 := Int.tmod_lt_of_pos (-a) hb
    rw [Int.neg_tmod] at h3
    omega
  split
  · unfold wrap64; omega
  · omega

section
variable {P : Program} {ops : Array Oper} {Q : Exit → Act → World → Prop} {md : Region.Mode} {S : World → Prop} {ds : List Nat}

/-- In whatever state that shows the operation the same operands, it leaves v and nothing else. -/
def Steady (P : Program) (ops : Array Oper) (o : Oper) (v : Value) (a : Act) : Prop :=
  Region.wanted o (yielded ops a.tmps) = true ∧ ∀ (a' : Act) (w : World) (K : Act → World → Prop) (Q : Exit → Act → World → Prop),
    execOp a'.eval o = execOp a.eval o → K (a'.put o.dst v) w → Oper.wp P o a' w K Q

theorem Steady.same {o : Oper} {v : Value} {a a' : Act} (hy : Steady P ops o v a) (he : execOp a'.eval o = execOp a.eval o)
    (hw : Region.wanted o (yielded ops a'.tmps) = Region.wanted o (yielded ops a.tmps)) : Steady P ops o v a' :=
  ⟨hw.trans hy.1, fun a2 w K Q h1 h2 => hy.2 a2 w K Q (h1.trans he) h2⟩

end
end Go.Proofs.YtalpoojepffldaaDoor
