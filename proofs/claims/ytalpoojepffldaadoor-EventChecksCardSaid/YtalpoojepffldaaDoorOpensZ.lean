/- As Opens, with the reach that the row's sizes give: a string that is read is no longer than the reach of a call. -/
import Derived.Test.YtalpoojepffldaaDoorOpens
import Derived.SizedLaws
namespace Go.Proofs.YtalpoojepffldaaDoorO
open Go.Proofs.YtalpoojepffldaaDoorW.PrintWords

/-- A cell row that reads at type t, of weights within reach, is a value of the kind k that fits B. -/
def OpensZ {α : Type} (P : Program) (k : Kd α) (t : TypeId) (B : α → Prop) : Prop :=
  P.cellsOf t = k.sz ∧ ∀ (H : Type) (enc : TypeId × Value → H) (w : World) (base : Nat) (sp : Nat → Bool) (held : Bool) (fuel : Nat) (cs : List Value) (x : DataW H × List MemPlace),
    DataW.trod enc P w base sp held fuel t cs = some x → (∀ n ∈ x.1.weights P t, n ≤ reachBytes) → ∃ a : α, k.K w a cs ∧ B a

variable {P : Program}

theorem Opens.z {α : Type} {k : Kd α} {t : TypeId} {B : α → Prop} (h : Opens P k t B) : OpensZ P k t B := ⟨h.1, fun H enc w base sp held fuel cs x hx _ => h.2 H enc w base sp held fuel cs x hx⟩

theorem opensZ_string {t : TypeId} (ht : P.underlying t = some .string) (hc : P.cellsOf t = 1) : OpensZ P Kd.string t (fun s => s.size ≤ 140737488351232) :=
  ⟨hc, fun H enc w base sp held fuel cs x h hz => by
    obtain ⟨s, rfl, rfl, _⟩ := DataW.trod_string ht h
    refine ⟨s, rfl, ?_⟩
    have := hz s.data.toList.length (by simp [DataW.weights])
    exact this⟩

theorem mem_weightsAll {H : Type} {e : TypeId} {n : Nat} : ∀ {ds : List (DataW H)} {d : DataW H}, d ∈ ds → n ∈ d.weights P e → n ∈ DataW.weightsAll P e ds
  | d0 :: ds, d, hd, hn => by
    simp only [DataW.weightsAll, List.mem_append]
    rcases List.mem_cons.1 hd with rfl | hd
    · exact .inl hn
    · exact .inr (mem_weightsAll hd hn)

theorem opensZ_slice {α : Type} {d : Kd α} {t e : TypeId} {B : α → Prop} (ht : P.underlying t = some (.slice e)) (hc : P.cellsOf t = 1) (h : OpensZ P d e B) :
    OpensZ P (Kd.slice e d) t (fun l => l.length ≤ maxLen ∧ ∀ x ∈ l, B x) := by
  refine ⟨hc, fun H enc w base sp held fuel cs x hx hz => ?_⟩
  rcases DataW.trod_slice ht hx with ⟨rfl, rfl⟩ | ⟨a, len, cap, elems, rest, n, rfl, rfl, rfl, _, hl, hcap, hel, he, _⟩
  · exact ⟨[], ⟨none, 0, rfl, Nat.le_refl _, rfl, by simp, fun h0 => by simp at h0⟩, by simp [maxLen], fun x hx => by simp at hx⟩
  · have key : ∀ i : Fin len, ∃ p, B p ∧ ∃ c : List Value, c.length = d.sz ∧ d.K w p c ∧ ∀ j u, c[j]? = some u → w.cell? (a.add (i.val * d.sz + j)) = some u := by
      intro i
      have hi := he i.val i.isLt
      have hlt : i.val < elems.length := by rw [hel]; exact i.isLt
      rw [List.getElem?_eq_getElem hlt] at hi
      obtain ⟨c, hcells, htr⟩ := Option.bind_eq_some_iff.1 hi
      obtain ⟨p, hK, hB⟩ := h.2 H enc w base sp held n c _ htr (fun m hm => hz m (by
        simp only [DataW.weights, ht]
        refine List.mem_cons_of_mem _ (List.mem_append.2 (.inl (mem_weightsAll (d := (elems[i.val]).1) ?_ hm)))
        exact List.mem_map.2 ⟨_, List.getElem_mem hlt, rfl⟩))
      rw [h.1] at hcells
      obtain ⟨_, hlen, hcell⟩ := World.cells?_some hcells
      refine ⟨p, hB, c, hlen, hK, fun j u hu => ?_⟩
      have hj : j < d.sz := by
        rw [← hlen]
        exact (List.getElem?_eq_some_iff.1 hu).1
      rw [← add_add, hcell j hj]
      exact hu
    refine ⟨List.ofFn (fun i : Fin len => (key i).choose), ?_, ?_⟩
    · refine ⟨some a, cap, by rw [List.length_ofFn], by rw [List.length_ofFn]; exact hl, rfl, by rw [List.length_ofFn]; unfold maxLen at hcap; omega, fun _ => ⟨a, rfl, fun j p hp => ?_⟩⟩
      rw [List.getElem?_ofFn] at hp
      split at hp
      · rename_i hj
        obtain rfl := Option.some.inj hp
        exact (key ⟨j, hj⟩).choose_spec.2
      · cases hp
    · refine ⟨by rw [List.length_ofFn]; exact Nat.le_trans hl hcap, fun x hx => ?_⟩
      obtain ⟨i, rfl⟩ := (List.mem_ofFn).1 hx
      exact (key i).choose_spec.1

/-- The fields from one on. -/
def OpensFZ {α : Type} (P : Program) (k : Kd α) (fs : List Field) (off : Nat) (B : α → Prop) : Prop :=
  ∀ (H : Type) (enc : TypeId × Value → H) (w : World) (base : Nat) (sp : Nat → Bool) (held : Bool) (n : Nat) (cs : List Value),
    (∀ (i : Nat) (f : Field), fs[i]? = some f → ∃ y, DataW.trod enc P w base sp held n f.type ((cs.drop f.offset).take (P.cellsOf f.type)) = some y ∧ ∀ m ∈ y.1.weights P f.type, m ≤ reachBytes) → ∃ a : α, k.K w a ((cs.drop off).take k.sz) ∧ B a

theorem opensFZ_one {α : Type} {k : Kd α} {f : Field} {off : Nat} {B : α → Prop} (h : OpensZ P k f.type B) (ho : f.offset = off) : OpensFZ P k [f] off B := by
  intro H enc w base sp held n cs hf
  obtain ⟨y, hy, hz⟩ := hf 0 f rfl
  rw [ho, h.1] at hy
  exact h.2 H enc w base sp held n _ y hy hz

theorem opensFZ_cons {α β : Type} {k1 : Kd α} {k2 : Kd β} {f : Field} {fs : List Field} {off off2 : Nat} {B1 : α → Prop} {B2 : β → Prop} (h : OpensZ P k1 f.type B1) (ho : f.offset = off) (h2 : OpensFZ P k2 fs off2 B2) (ho2 : off + k1.sz = off2) :
    OpensFZ P (Kd.pair k1 k2) (f :: fs) off (fun x => B1 x.1 ∧ B2 x.2) := by
  intro H enc w base sp held n cs hf
  obtain ⟨y, hy, hz⟩ := hf 0 f rfl
  rw [ho, h.1] at hy
  obtain ⟨a, ha, hb⟩ := h.2 H enc w base sp held n _ y hy hz
  obtain ⟨b, hb1, hb2⟩ := h2 H enc w base sp held n cs (fun i g hg => hf (i + 1) g hg)
  refine ⟨(a, b), ⟨_, _, ?_, ha, hb1⟩, hb, hb2⟩
  subst ho2
  show (cs.drop off).take (k1.sz + k2.sz) = _
  rw [List.take_add, List.drop_drop]

theorem opensZ_struct {α β : Type} {k : Kd α} {t : TypeId} {fs : Array Field} {fl : List Field} {B : α → Prop} (ht : P.underlying t = some (.struct fs)) (hfl : fs.toList = fl) (hc : P.cellsOf t = k.sz) (h : OpensFZ P k fl 0 B) (f : β → α) (g : α → β) (hg : ∀ a, f (g a) = a) :
    OpensZ P (Kd.iso k f) t (fun x => B (f x)) := by
  refine ⟨hc, fun H enc w base sp held fuel cs x hx hz => ?_⟩
  obtain ⟨xs, n, _, rfl, hlen, hxs, hf⟩ := DataW.trod_struct ht hx
  obtain ⟨a, ha, hb⟩ := h H enc w base sp held n cs (fun i fd hi => by
    subst hfl
    have hi' : fs[i]? = some fd := by simpa using hi
    have := hf i fd hi'
    have hlt : i < xs.length := by
      rw [hxs]
      exact (Array.getElem?_eq_some_iff.1 hi').1
    rw [List.getElem?_eq_getElem hlt] at this
    refine ⟨_, this, fun m hm => hz m ?_⟩
    simp only [DataW.weights, ht]
    exact DataW.weights_mem_each (j := i) (by rw [List.getElem?_map, hi]; rfl) (by rw [List.getElem?_map, List.getElem?_eq_getElem hlt]; rfl) m hm)
  rw [List.drop_zero, List.take_of_length_le (by rw [hlen, hc]; exact Nat.le_refl _)] at ha
  exact ⟨g a, by show k.K w (f (g a)) cs; rw [hg]; exact ha, by show B (f (g a)); rw [hg]; exact hb⟩

/-- What the row says of the sizes, for one parameter. -/
theorem weights_one {H : Type} {ts : List TypeId} {ds : List (DataW H)} (h : (DataW.weightsEach P ts ds).all (· ≤ reachBytes) = true) {j : Nat} {t : TypeId} {d : DataW H} (ht : ts[j]? = some t) (hd : ds[j]? = some d) : ∀ n ∈ d.weights P t, n ≤ reachBytes := fun n hn => by
  have := List.all_eq_true.1 h _ (DataW.weights_mem_each ht hd n hn)
  simpa using this
end Go.Proofs.YtalpoojepffldaaDoorO
