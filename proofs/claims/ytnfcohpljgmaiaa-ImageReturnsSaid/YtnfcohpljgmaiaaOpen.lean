/- Arguments of any kind opened to cells: a kind opens a type if whatever reads as data of that type is a value of the kind. -/
import Derived.Test.YtnfcohpljgmaiaaWWords
import Derived.Deep.Slices
import Derived.OpenShut
namespace Go.Proofs.Ytnfcohpljgmaiaa
open Go.RowKit Go.ChangeShapes Go.WideShapes Go.Deep Go.Proofs.YtnfcohpljgmaiaaW.PrintWords

/-- Whatever reads as data of type t is a value of kind d, of which good holds. -/
def Opens {α : Type} (P : Program) (t : TypeId) (d : Kd α) (good : α → Prop) : Prop :=
  P.cellsOf t = d.sz ∧ ∀ (H : Type) (enc : TypeId × Value → H) (w : World) (base : Nat) (spare : Nat → Bool) (held : Bool) (fuel : Nat) (cs : List Value) (x : DataW H × List MemPlace),
    DataW.trod enc P w base spare held fuel t cs = some x → ∃ a, d.K w a cs ∧ good a

theorem opens_int {P : Program} {t : TypeId} {k : IntKind} (ht : P.underlying t = some (.int k)) (hc : P.cellsOf t = 1) : Opens P t (Kd.int k) (fun n => (Lit.int k n).wf = true) :=
  ⟨hc, fun _ _ _ _ _ _ _ _ _ h => by
    obtain ⟨n, rfl, -, hw⟩ := DataW.trod_int ht h
    exact ⟨n, rfl, hw⟩⟩
theorem opens_string {P : Program} {t : TypeId} (ht : P.underlying t = some .string) (hc : P.cellsOf t = 1) : Opens P t Kd.string (fun s => s.size ≤ maxLen) :=
  ⟨hc, fun _ _ _ _ _ _ _ _ _ h => by
    obtain ⟨n, rfl, -, hw⟩ := DataW.trod_string ht h
    exact ⟨n, rfl, hw⟩⟩
theorem opens_slice {α : Type} {P : Program} {t e : TypeId} {d : Kd α} {good : α → Prop} (ht : P.underlying t = some (.slice e)) (hc : P.cellsOf t = 1) (he : Opens P e d good) :
    Opens P t (Kd.slice e d) (fun l => l.length ≤ maxLen ∧ ∀ x ∈ l, good x) :=
  ⟨hc, fun H enc w base spare held fuel cs x h => by
    rcases open_slice ht h with ⟨rfl, -⟩ | ⟨a, len, cap, m, n, D, Pl, rfl, hb, hl, hm, hmm, -, hi⟩
    · exact ⟨[], ⟨none, 0, rfl, Nat.le_refl _, rfl, by simp, fun h => absurd h (by simp)⟩, by simp, fun x hx => by cases hx⟩
    · have hlm : len ≤ m := by
        rw [hmm]
        split <;> omega
      have hg : ∀ i : Fin len, ∃ v : α, good v ∧ ∃ c : List Value, c.length = d.sz ∧ d.K w v c ∧ ∀ j u, c[j]? = some u → w.cell? (a.add (i.val * d.sz + j)) = some u := by
        intro i
        obtain ⟨c, h1, h2⟩ := hi i.val (Nat.lt_of_lt_of_le i.isLt hlm)
        obtain ⟨v, hk, hgood⟩ := he.2 H enc w base spare held n c _ h2
        obtain ⟨-, hcl, hat⟩ := World.cells?_some h1
        rw [he.1] at hcl hat
        refine ⟨v, hgood, c, hcl, hk, fun j u hu => ?_⟩
        have hj : j < d.sz := by
          rw [← hcl]
          exact (List.getElem?_eq_some_iff.1 hu).1
        rw [← Deep.add_add, hat j hj, hu]
      refine ⟨List.ofFn fun i => Classical.choose (hg i), ⟨some a, cap, by rw [List.length_ofFn], by rw [List.length_ofFn]; exact hl, rfl, by rw [List.length_ofFn]; simp only [maxLen] at hm; omega, fun _ => ⟨a, rfl, fun j p hj => ?_⟩⟩, by rw [List.length_ofFn]; omega, fun x hx => ?_⟩
      · obtain ⟨hjl, hp⟩ := List.getElem?_eq_some_iff.1 hj
        rw [List.length_ofFn] at hjl
        rw [List.getElem_ofFn] at hp
        subst hp
        obtain ⟨c, h1, h2, h3⟩ := (Classical.choose_spec (hg ⟨j, hjl⟩)).2
        exact ⟨c, h1, h2, h3⟩
      · obtain ⟨i, rfl⟩ := List.mem_ofFn.1 hx
        exact (Classical.choose_spec (hg i)).1⟩

/-- The fields fs, which begin at cell off, read as a value of kind d. -/
def OpensAt {α : Type} (P : Program) (fs : List Field) (off : Nat) (d : Kd α) (good : α → Prop) : Prop :=
  ∀ (H : Type) (enc : TypeId × Value → H) (w : World) (base : Nat) (spare : Nat → Bool) (held : Bool) (fuel : Nat) (cs : List Value), cs.length = off + d.sz →
    (∀ (i : Nat) (f : Field), fs[i]? = some f → ∃ x, DataW.trod enc P w base spare held fuel f.type ((cs.drop f.offset).take (P.cellsOf f.type)) = some x) → ∃ a, d.K w a (cs.drop off) ∧ good a
theorem opensAt_last {α : Type} {P : Program} {f : Field} {off : Nat} {d : Kd α} {good : α → Prop} (hf : f.offset = off) (h : Opens P f.type d good) : OpensAt P [f] off d good := by
  intro H enc w base spare held fuel cs hl hx
  obtain ⟨x, hx⟩ := hx 0 f rfl
  obtain ⟨a, hk, hg⟩ := h.2 H enc w base spare held fuel _ x hx
  rw [hf, h.1, List.take_of_length_le (by rw [List.length_drop]; omega)] at hk
  exact ⟨a, hk, hg⟩
theorem opensAt_cons {α β : Type} {P : Program} {f : Field} {fs : List Field} {off : Nat} {d : Kd α} {d' : Kd β} {good : α → Prop} {good' : β → Prop} (hf : f.offset = off) (h : Opens P f.type d good) (ht : OpensAt P fs (off + d.sz) d' good') :
    OpensAt P (f :: fs) off (Kd.pair d d') (fun p => good p.1 ∧ good' p.2) := by
  intro H enc w base spare held fuel cs hl hx
  obtain ⟨x, hx0⟩ := hx 0 f rfl
  obtain ⟨a, hk, hg⟩ := h.2 H enc w base spare held fuel _ x hx0
  have hl' : cs.length = off + (d.sz + d'.sz) := hl
  obtain ⟨b, hk', hg'⟩ := ht H enc w base spare held fuel cs (by omega) (fun i g hg => hx (i + 1) g (by simpa using hg))
  rw [hf, h.1] at hk
  refine ⟨(a, b), ⟨_, _, ?_, hk, hk'⟩, hg, hg'⟩
  rw [← List.drop_drop, List.take_append_drop]
theorem opens_struct {α β : Type} {P : Program} {t : TypeId} {fs : Array Field} {d : Kd α} {good : α → Prop} {f : β → α} (ht : P.underlying t = some (.struct fs)) (hc : P.cellsOf t = d.sz) (h : OpensAt P fs.toList 0 d good) (hf : ∀ a, ∃ b, f b = a) :
    Opens P t (Kd.iso d f) (fun b => good (f b)) :=
  ⟨hc, fun H enc w base spare held fuel cs x hx => by
    obtain ⟨xs, n, -, -, hlen, hxl, hfd⟩ := DataW.trod_struct ht hx
    obtain ⟨a, hk, hg⟩ := h H enc w base spare held n cs (by rw [hlen, hc]; omega) (fun i g hg => by
      have hg' : fs[i]? = some g := by simpa using hg
      have hi : i < xs.length := by
        rw [hxl]
        exact (Array.getElem?_eq_some_iff.1 hg').1
      exact ⟨xs[i], by rw [hfd i g hg', List.getElem?_eq_getElem hi]⟩)
    obtain ⟨b, rfl⟩ := hf a
    exact ⟨b, hk, hg⟩⟩

end Go.Proofs.Ytnfcohpljgmaiaa
