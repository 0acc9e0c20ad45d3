/- For the rows of laws whose parameters are structs, or slices of them: out of a reading of the row comes a value of the printed kind ('Opens').
   Conditions: none; each lemma asks of a type only what its own table says. -/
import Derived.Test.YtalpoojepffldaaDoorWWords
import Derived.ChangeArms
import Derived.ChangeOld
import Derived.DataReads
namespace Go.Proofs.YtalpoojepffldaaDoorO
open Go.Proofs.YtalpoojepffldaaDoorW.PrintWords

/-- A cell row that reads at type t is a value of the kind k that fits B. -/
def Opens {α : Type} (P : Program) (k : Kd α) (t : TypeId) (B : α → Prop) : Prop :=
  P.cellsOf t = k.sz ∧ ∀ (H : Type) (enc : TypeId × Value → H) (w : World) (base : Nat) (sp : Nat → Bool) (held : Bool) (fuel : Nat) (cs : List Value) (x : DataW H × List MemPlace),
    DataW.trod enc P w base sp held fuel t cs = some x → ∃ a : α, k.K w a cs ∧ B a

variable {P : Program}

theorem opens_int {t : TypeId} {k : IntKind} (ht : P.underlying t = some (.int k)) (hc : P.cellsOf t = 1) : Opens P (Kd.int k) t (fun n => (Lit.int k n).wf = true) :=
  ⟨hc, fun H enc w base sp held fuel cs x h => by obtain ⟨n, rfl, _, hw⟩ := DataW.trod_int ht h; exact ⟨n, rfl, hw⟩⟩

theorem opens_bool {t : TypeId} (ht : P.underlying t = some .bool) (hc : P.cellsOf t = 1) : Opens P Kd.bool t (fun _ => True) :=
  ⟨hc, fun H enc w base sp held fuel cs x h => by obtain ⟨b, rfl, _⟩ := DataW.trod_bool ht h; exact ⟨b, rfl, trivial⟩⟩

theorem opens_string {t : TypeId} (ht : P.underlying t = some .string) (hc : P.cellsOf t = 1) : Opens P Kd.string t (fun s => s.size ≤ maxLen) :=
  ⟨hc, fun H enc w base sp held fuel cs x h => by obtain ⟨s, rfl, _, hs⟩ := DataW.trod_string ht h; exact ⟨s, rfl, hs⟩⟩

theorem opens_slice {α : Type} {d : Kd α} {t e : TypeId} {B : α → Prop} (ht : P.underlying t = some (.slice e)) (hc : P.cellsOf t = 1) (h : Opens P d e B) :
    Opens P (Kd.slice e d) t (fun l => l.length ≤ maxLen ∧ ∀ x ∈ l, B x) := by
  refine ⟨hc, fun H enc w base sp held fuel cs x hx => ?_⟩
  rcases DataW.trod_slice ht hx with ⟨rfl, rfl⟩ | ⟨a, len, cap, elems, rest, n, rfl, rfl, _, _, hl, hcap, hel, he, _⟩
  · exact ⟨[], ⟨none, 0, rfl, Nat.le_refl _, rfl, by simp, fun h0 => by simp at h0⟩, by simp [maxLen], fun x hx => by simp at hx⟩
  · have key : ∀ i : Fin len, ∃ p, B p ∧ ∃ c : List Value, c.length = d.sz ∧ d.K w p c ∧ ∀ j u, c[j]? = some u → w.cell? (a.add (i.val * d.sz + j)) = some u := by
      intro i
      have hi := he i.val i.isLt
      have : i.val < elems.length := by rw [hel]; exact i.isLt
      rw [List.getElem?_eq_getElem this] at hi
      obtain ⟨c, hcells, htr⟩ := Option.bind_eq_some_iff.1 hi
      obtain ⟨p, hK, hB⟩ := h.2 H enc w base sp held n c _ htr
      rw [h.1] at hcells
      obtain ⟨_, hlen, hcell⟩ := World.cells?_some hcells
      refine ⟨p, hB, c, hlen, hK, fun j u hu => ?_⟩
      have hj : j < d.sz := by
        rw [← hlen]
        exact (List.getElem?_eq_some_iff.1 hu).1
      rw [← add_add, hcell j hj]
      exact hu
    refine ⟨List.ofFn (fun i : Fin len => (key i).choose), ?_, ?_⟩
    · refine ⟨some a, cap, by rw [List.length_ofFn], by rw [List.length_ofFn]; exact hl, rfl, by rw [List.length_ofFn]; unfold maxLen at hcap; omega, fun _ => ⟨a, rfl, fun j p hp => ?_⟩⟩
      rw [List.getElem?_ofFn] at hp
      split at hp
      · rename_i hj
        obtain rfl := Option.some.inj hp
        exact (key ⟨j, hj⟩).choose_spec.2
      · cases hp
    · refine ⟨by rw [List.length_ofFn]; exact Nat.le_trans hl hcap, fun x hx => ?_⟩
      obtain ⟨i, rfl⟩ := (List.mem_ofFn).1 hx
      exact (key i).choose_spec.1

/-- The fields from one on. -/
def OpensF {α : Type} (P : Program) (k : Kd α) (fs : List Field) (off : Nat) (B : α → Prop) : Prop :=
  ∀ (H : Type) (enc : TypeId × Value → H) (w : World) (base : Nat) (sp : Nat → Bool) (held : Bool) (n : Nat) (cs : List Value),
    (∀ (i : Nat) (f : Field), fs[i]? = some f → ∃ y, DataW.trod enc P w base sp held n f.type ((cs.drop f.offset).take (P.cellsOf f.type)) = some y) → ∃ a : α, k.K w a ((cs.drop off).take k.sz) ∧ B a

theorem opensF_one {α : Type} {k : Kd α} {f : Field} {off : Nat} {B : α → Prop} (h : Opens P k f.type B) (ho : f.offset = off) : OpensF P k [f] off B := by
  intro H enc w base sp held n cs hf
  obtain ⟨y, hy⟩ := hf 0 f rfl
  rw [ho, h.1] at hy
  exact h.2 H enc w base sp held n _ y hy

theorem opensF_cons {α β : Type} {k1 : Kd α} {k2 : Kd β} {f : Field} {fs : List Field} {off off2 : Nat} {B1 : α → Prop} {B2 : β → Prop} (h : Opens P k1 f.type B1) (ho : f.offset = off) (h2 : OpensF P k2 fs off2 B2) (ho2 : off + k1.sz = off2) :
    OpensF P (Kd.pair k1 k2) (f :: fs) off (fun x => B1 x.1 ∧ B2 x.2) := by
  intro H enc w base sp held n cs hf
  obtain ⟨y, hy⟩ := hf 0 f rfl
  rw [ho, h.1] at hy
  obtain ⟨a, ha, hb⟩ := h.2 H enc w base sp held n _ y hy
  obtain ⟨b, hb1, hb2⟩ := h2 H enc w base sp held n cs (fun i g hg => hf (i + 1) g hg)
  refine ⟨(a, b), ⟨_, _, ?_, ha, hb1⟩, hb, hb2⟩
  subst ho2
  show (cs.drop off).take (k1.sz + k2.sz) = _
  rw [List.take_add, List.drop_drop]

theorem opens_struct {α β : Type} {k : Kd α} {t : TypeId} {fs : Array Field} {fl : List Field} {B : α → Prop} (ht : P.underlying t = some (.struct fs)) (hfl : fs.toList = fl) (hc : P.cellsOf t = k.sz) (h : OpensF P k fl 0 B) (f : β → α) (g : α → β) (hg : ∀ a, f (g a) = a) :
    Opens P (Kd.iso k f) t (fun x => B (f x)) := by
  refine ⟨hc, fun H enc w base sp held fuel cs x hx => ?_⟩
  obtain ⟨xs, n, _, _, hlen, hxs, hf⟩ := DataW.trod_struct ht hx
  obtain ⟨a, ha, hb⟩ := h H enc w base sp held n cs (fun i fd hi => by
    subst hfl
    have hi' : fs[i]? = some fd := by simpa using hi
    have := hf i fd hi'
    have hlt : i < xs.length := by
      rw [hxs]
      exact (Array.getElem?_eq_some_iff.1 hi').1
    rw [List.getElem?_eq_getElem hlt] at this
    exact ⟨_, this⟩)
  rw [List.drop_zero, List.take_of_length_le (by rw [hlen, hc]; exact Nat.le_refl _)] at ha
  exact ⟨g a, by show k.K w (f (g a)) cs; rw [hg]; exact ha, by show B (f (g a)); rw [hg]; exact hb⟩

theorem agg_of {cells : Array Value} {l : List Value} (h : cells.toList = l) : Value.agg cells = .agg l.toArray := by
  subst h
  rfl
end Go.Proofs.YtalpoojepffldaaDoorO
