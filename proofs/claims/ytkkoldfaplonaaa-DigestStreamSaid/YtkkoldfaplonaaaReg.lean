/- A rule for regions that draw their order and whose operations read, reckon, or call functions that only make new memory: one walk in the order of the text serves every order; one allocation may stand beside them, and stores, appends and the like may follow in a forced order. -/
import Derived.Test.YtkkoldfaplonaaaBase
import Derived.Still
import Derived.Tactics
import Derived.Tactics2
namespace Go.Proofs.Ytkkoldfaplonaaa
open Go.RowKit

/-- A world in which, seen from w, there is new memory and nothing else. -/
def Ext (w : World) : Type := { w' : World // Below w.heap.size w w' }
instance (w : World) : Nonempty (Ext w) := ⟨⟨w, Below.refl _ _⟩⟩
def Ext.v {w : World} (x : Ext w) : World := x.1
theorem Ext.below {w : World} (x : Ext w) : Below w.heap.size w x.v := x.2
theorem Ext.cell {w : World} (x : Ext w) (b o : Nat) (h : b < w.heap.size) : x.v.cell? ⟨b, o, none⟩ = w.cell? ⟨b, o, none⟩ := x.below.cell (p := ⟨b, o, none⟩) h
theorem Ext.frozen {w : World} (x : Ext w) (b o : Nat) (h : b < w.heap.size) : x.v.frozen? ⟨b, o, none⟩ = w.frozen? ⟨b, o, none⟩ := x.below.frozen (p := ⟨b, o, none⟩) h
theorem Ext.heap {w : World} (x : Ext w) (b : Nat) (h : b < w.heap.size) : x.v.heap[b]? = w.heap[b]? := x.below.block b h

section
variable {P : Program} {ops : Array Oper} {w0 : World} {md : Region.Mode}

def extUpon (P : Program) (w : World) (v : Value) : Result Next → Prop
  | .ok (.value u) w' => w' = w ∧ u = v
  | .ok .skip w' => w' = w ∧ v = undef
  | .ok (.enter f args) w' => w' = w ∧ Calls P f args w (Ret v w)
  | _ => False

def extAt (P : Program) (o : Oper) (a : Act) (w : World) (v : Value) : Prop := extUpon P w v ((execOp a.eval o).run P w)

/-- Operation o, number k, in the text's order: number m is the one that makes a variable. -/
def extOp (P : Program) (ops : Array Oper) (w0 : World) (m k : Nat) (o : Oper) (K : Act → Prop) (a : Act) : Prop :=
  if k = m then ∀ x, K (a.put o.dst x)
  else if Region.wanted o (yielded ops a.tmps) then ∃ v, (∀ x : Ext w0, extAt P o a x.v v) ∧ K (a.put o.dst v)
  else K (a.put o.dst undef)

theorem extOp_mono {m k : Nat} {o : Oper} {a : Act} {K K' : Act → Prop} (h : ∀ a, K a → K' a) (hh : extOp P ops w0 m k o K a) : extOp P ops w0 m k o K' a := by
  unfold extOp at *
  split
  · rename_i e
    rw [if_pos e] at hh
    exact fun x => h _ (hh x)
  · rename_i e
    rw [if_neg e] at hh
    split
    · rename_i e2
      rw [if_pos e2] at hh
      obtain ⟨v, h1, h2⟩ := hh
      exact ⟨v, h1, h _ h2⟩
    · rename_i e2
      rw [if_neg e2] at hh
      exact h _ hh

/-- Whatever order is taken from here on, till the front (the first n) is done: f operations of it are left. -/
def anyX (P : Program) (md : Region.Mode) (ops : Array Oper) (w0 : World) (m n : Nat) (done : Array Bool) (Q : Act → Prop) : Nat → Array Bool → Act → Prop
  | 0, listed, a => listed = done ∧ Q a
  | f + 1, listed, a => Region.ready md ops listed ≠ [] ∧ ∀ i ∈ Region.ready md ops listed, i < n ∧ ∃ o, ops[i]? = some o ∧ extOp P ops w0 m i o (anyX P md ops w0 m n done Q f (listed.setIfInBounds i true)) a

/-- In frame a operation o, number k, yields v (in every world of the class), or is passed over. -/
def GivesX (P : Program) (ops : Array Oper) (w0 : World) (o : Oper) (v : Value) (a : Act) : Prop :=
  (Region.wanted o (yielded ops a.tmps) = true ∧ ∀ x : Ext w0, extAt P o a x.v v) ∨ (Region.wanted o (yielded ops a.tmps) = false ∧ v = undef)

theorem GivesX.of_same {o : Oper} {v : Value} {a a' : Act} (hy : GivesX P ops w0 o v a) (he : execOp a'.eval o = execOp a.eval o)
    (hw : Region.wanted o (yielded ops a'.tmps) = Region.wanted o (yielded ops a.tmps)) : GivesX P ops w0 o v a' := by
  unfold GivesX extAt at *
  rw [he, hw]
  exact hy

theorem GivesX.op {m k : Nat} {o : Oper} {v : Value} {a : Act} (hk : k ≠ m) (hy : GivesX P ops w0 o v a) {K : Act → Prop} (h : K (a.put o.dst v)) : extOp P ops w0 m k o K a := by
  unfold extOp
  rw [if_neg hk]
  rcases hy with ⟨hw, hv⟩ | ⟨hw, rfl⟩
  · rw [if_pos hw]
    exact ⟨v, hv, h⟩
  · rw [if_neg (by simp [hw])]
    exact h

theorem givesX_of_op {m k : Nat} {o : Oper} {a : Act} {K : Act → Prop} (hk : k ≠ m) (h : extOp P ops w0 m k o K a) : ∃ v, GivesX P ops w0 o v a ∧ K (a.put o.dst v) := by
  unfold extOp at h
  rw [if_neg hk] at h
  by_cases hw : Region.wanted o (yielded ops a.tmps) = true
  · rw [if_pos hw] at h
    obtain ⟨v, h1, h2⟩ := h
    exact ⟨v, .inl ⟨hw, h1⟩, h2⟩
  · rw [if_neg hw] at h
    exact ⟨undef, .inr ⟨by simpa using hw, rfl⟩, h⟩

/-- Operation oj, apart from oi: whether oi's value is already there makes no difference to it, and it makes none to oi. -/
theorem extOp_put {m j : Nat} {oi oj : Oper} {v : Value} (hap : oi.apart ops oj = true)
    (hsi : ∀ cs b, oi.op ≠ .select cs b) (hsj : ∀ cs b, oj.op ≠ .select cs b) {K : Act → Prop} {a : Act}
    (hy : GivesX P ops w0 oi v a) (h : extOp P ops w0 m j oj K (a.put oi.dst v)) :
    extOp P ops w0 m j oj (fun a' => GivesX P ops w0 oi v a' ∧ K (a'.put oi.dst v)) a := by
  obtain ⟨h1, h2, h3⟩ := Oper.apart_spec hap
  have keep : ∀ u, GivesX P ops w0 oi v (a.put oj.dst u) := fun u =>
    hy.of_same (execOp_put oi hsi a oj.dst u h3) (wanted_put oi a oj.dst u h3)
  have comm : ∀ u, (a.put oj.dst u).put oi.dst v = (a.put oi.dst v).put oj.dst u := fun u => (Act.put_comm a v u h2).symm
  unfold extOp at *
  split
  · rename_i e
    rw [if_pos e] at h
    intro x
    exact ⟨keep x, by rw [comm]; exact h x⟩
  · rename_i e
    rw [if_neg e, wanted_put oj a oi.dst v h1] at h
    split
    · rename_i hw
      rw [if_pos hw] at h
      obtain ⟨u, hu, hn⟩ := h
      refine ⟨u, fun x => ?_, keep u, by rw [comm]; exact hn⟩
      have := hu x
      unfold extAt at *
      rwa [execOp_put oj hsj a oi.dst v h1] at this
    · rename_i hw
      rw [if_neg hw] at h
      exact ⟨keep _, by rw [comm]; exact h⟩

/-- Every operation behind the front waits for all of the front. -/
def waitsAll (md : Region.Mode) (ops : Array Oper) (n : Nat) : Bool :=
  (List.range ops.size).all fun t => decide (t < n) || match ops[t]? with
    | some o => (List.range n).all fun i => o.after.any fun e => Region.binds md e && e.on == i
    | none => true

theorem waitsAll_spec {n : Nat} {listed : Array Bool} (h : waitsAll md ops n = true) {i j : Nat} (hi : i < n) (hun : listed.getD i false = false) (hj : j ∈ Region.ready md ops listed) : j < n := by
  rcases Nat.lt_or_ge j n with hlt | hge
  · exact hlt
  · exfalso
    obtain ⟨_, o, ho, hall⟩ := mem_ready.1 hj
    have hjs : j < ops.size := (Array.getElem?_eq_some_iff.1 ho).1
    unfold waitsAll at h
    have h1 := List.all_eq_true.1 h j (List.mem_range.2 hjs)
    simp only [ho, Bool.or_eq_true, decide_eq_true_eq] at h1
    rcases h1 with h1 | h1
    · omega
    · have h2 := List.all_eq_true.1 h1 i (List.mem_range.2 hi)
      obtain ⟨e, he, hb⟩ := Array.any_eq_true'.1 h2
      simp only [Bool.and_eq_true, beq_iff_eq] at hb
      have h3 := hall e he hb.1
      rw [hb.2, hun] at h3
      cases h3

theorem getD_true_false {listed : Array Bool} {i : Nat} (h : listed.getD i true = false) : listed.getD i false = false := by
  rcases Nat.lt_or_ge i listed.size with h' | h'
  · simp [h'] at h ⊢
    exact h
  · simp [Array.getElem?_eq_none h'] at h

theorem anyX_first {m n i : Nat} {done : Array Bool} {oi : Oper} {v : Value} {Q : Act → Prop} (hi : ops[i]? = some oi) (him : i ≠ m) (hin : i < n)
    (hsel : ∀ (j : Nat) (o : Oper) cs b, ops[j]? = some o → o.op ≠ .select cs b) (hwait : waitsAll md ops n = true)
    (hdone : ∀ j, j < n → done.getD j true = true) :
    ∀ (f : Nat) (listed : Array Bool) (a : Act),
      (∀ j oj, ops[j]? = some oj → j ≠ i → listed.getD j true = false → (∀ e ∈ oj.after, Region.binds md e = true → e.on ≠ i) → oi.apart ops oj = true) →
      i ∈ Region.ready md ops listed → GivesX P ops w0 oi v a →
      anyX P md ops w0 m n done Q f (listed.setIfInBounds i true) (a.put oi.dst v) → anyX P md ops w0 m n done Q (f + 1) listed a := by
  intro f
  induction f with
  | zero =>
    intro listed a _ hr hy H
    have hun := getD_true_false (mem_ready.1 hr).1
    refine ⟨fun h => (by rw [h] at hr; cases hr), fun j hj => ?_⟩
    have hjn := waitsAll_spec hwait hin hun hj
    by_cases hji : j = i
    · subst hji
      exact ⟨hjn, oi, hi, hy.op him H⟩
    · exfalso
      have h1 := (mem_ready.1 hj).1
      rw [← getD_set_ne true (Ne.symm hji), H.1, hdone j hjn] at h1
      cases h1
  | succ f ih =>
    intro listed a hfree hr hy H
    have hun := getD_true_false (mem_ready.1 hr).1
    refine ⟨fun h => (by rw [h] at hr; cases hr), fun j hj => ?_⟩
    have hjn := waitsAll_spec hwait hin hun hj
    refine ⟨hjn, ?_⟩
    by_cases hji : j = i
    · subst hji
      exact ⟨oi, hi, hy.op him H⟩
    · obtain ⟨oj, hoj, h1⟩ := (H.2 j (ready_mono hj hji)).2
      obtain ⟨hjun, oj', hoj', hall⟩ := mem_ready.1 hj
      obtain rfl : oj = oj' := Option.some.inj (hoj.symm.trans hoj')
      have hnot : ∀ e ∈ oj.after, Region.binds md e = true → e.on ≠ i := fun e he hb heq => by
        have h1 := hall e he hb
        rw [heq, hun] at h1
        cases h1
      have h2 := extOp_put (hfree j oj hoj hji hjun hnot) (fun cs b => hsel i oi cs b hi) (fun cs b => hsel j oj cs b hoj) hy h1
      have hfree' : ∀ k ok, ops[k]? = some ok → k ≠ i → (listed.setIfInBounds j true).getD k true = false →
          (∀ e ∈ ok.after, Region.binds md e = true → e.on ≠ i) → oi.apart ops ok = true := fun k ok hk hki hun' hno => by
        refine hfree k ok hk hki ?_ hno
        by_cases hjk : j = k
        · subst hjk
          exact hjun
        · rw [getD_set_ne true hjk] at hun'
          exact hun'
      refine ⟨oj, hoj, extOp_mono (fun a' h3 => ih (listed.setIfInBounds j true) a' hfree' (ready_mono hr (Ne.symm hji)) h3.1 ?_) h2⟩
      rw [Array.setIfInBounds_comm _ _ hji]
      exact h3.2

/-- The walk in the text's order. -/
def wpX (P : Program) (ops : Array Oper) (w0 : World) (m : Nat) (Q : Act → Prop) : List Oper → Nat → Act → Prop
  | [], _, a => Q a
  | o :: rest, k, a => extOp P ops w0 m k o (wpX P ops w0 m Q rest (k + 1)) a

/-- In the text's order each of the front may come up, and whatever has not come up yet waits for it or is apart from it; number m, if any, is the last. -/
def frontB (md : Region.Mode) (ops : Array Oper) (m : Nat) (done : Array Bool) : Nat → Nat → Array Bool → Bool
  | 0, _, listed => listed == done
  | f + 1, k, listed => (Region.ready md ops listed).contains k && ((k != m && Region.free md ops listed k) || (k == m && f == 0 && Region.ready md ops listed == [k])) && frontB md ops m done f (k + 1) (listed.setIfInBounds k true)

theorem anyX_front {m n : Nat} {done : Array Bool} {Q : Act → Prop} (hs : Region.noSelect ops = true) (hwait : waitsAll md ops n = true) (hdone : ∀ j, j < n → done.getD j true = true) :
    ∀ (l : List Oper) (k : Nat) (listed : Array Bool) (a : Act), (∀ j, j < l.length → l[j]? = ops[k + j]?) → k + l.length = n →
    frontB md ops m done l.length k listed = true → wpX P ops w0 m Q l k a → anyX P md ops w0 m n done Q l.length listed a
  | [], _, _, _, _, _, hB, h => ⟨by simpa [frontB] using hB, h⟩
  | o :: l, k, listed, a, hl, hn, hB, h => by
    have h0 : ops[k]? = some o := by simpa using (hl 0 (by simp)).symm
    simp only [List.length_cons, frontB, Bool.and_eq_true, Bool.or_eq_true, bne_iff_ne, ne_eq, beq_iff_eq] at hB
    obtain ⟨⟨hr, hc⟩, hB'⟩ := hB
    have hr' : k ∈ Region.ready md ops listed := by simpa using hr
    have hkn : k < n := by simp at hn; omega
    have hl' : ∀ j, j < l.length → l[j]? = ops[k + 1 + j]? := fun j hj => by have := hl (j + 1) (by simp; omega); simpa [Nat.add_assoc, Nat.add_comm 1 j] using this
    have hst : extOp P ops w0 m k o (wpX P ops w0 m Q l (k + 1)) a := h
    rcases hc with ⟨hkm, hf⟩ | ⟨⟨hkm, hf⟩, hone⟩
    · obtain ⟨v, hy, hK⟩ := givesX_of_op hkm hst
      exact anyX_first h0 hkm hkn (Region.noSelect_spec hs) hwait hdone l.length listed a (Region.free_spec h0 hf) hr' hy
        (anyX_front hs hwait hdone l (k + 1) _ _ hl' (by simp at hn; omega) hB' hK)
    · have hl0 : l = [] := List.eq_nil_of_length_eq_zero hf
      subst hl0
      refine ⟨fun e => (by rw [e] at hr'; cases hr'), fun i hi => ?_⟩
      rw [hone] at hi
      obtain rfl : i = k := by simpa using hi
      refine ⟨hkn, o, h0, extOp_mono (fun a' ha' => ?_) hst⟩
      exact ⟨by simpa [frontB] using hB', ha'⟩

theorem getD_rep (m j : Nat) : (Array.replicate m false).getD j false = false := by
  rcases Nat.lt_or_ge j m with h | h
  · simp [h]
  · simp [h]

/-- From a walk over frames to the run itself. -/
theorem size_put (a : Act) (d : Option Tmp) (u : Value) : (a.put d u).tmps.size = a.tmps.size := by
  cases d <;> simp [Act.put]

theorem any_of_X {m n g s : Nat} {done : Array Bool} {Q : Act → Prop} {Q' : Exit → Act → World → Prop} {A : Value → World → Prop} (dm : Operand)
    (hA : ∀ v w w', A v w → Below w.heap.size w w' → A v w')
    (hm : ∀ om, ops[m]? = some om → om.guard = none ∧ ∀ (a : Act) (x : Ext w0), a.tmps.size = s → ∃ u w', (execOp a.eval om).run P x.v = .ok (.value u) w' ∧ Below x.v.heap.size x.v w' ∧ A u w' ∧ (a.put om.dst u).eval dm = u)
    (hd : ∀ i o, ops[i]? = some o → i < n → i ≠ m → ∀ (a : Act) u, (a.put o.dst u).eval dm = a.eval dm)
    (hmn : m < n → m < ops.size)
    (hQ : ∀ a w, Below w0.heap.size w0 w → (m < n → A (a.eval dm) w) → Q a → wpAny P md ops Q' g done a w)
    (hdone : done.size = ops.size) :
    ∀ (f : Nat) (listed : Array Bool) (a : Act) (w : World), Below w0.heap.size w0 w → a.tmps.size = s → listed.size = ops.size → (m < n → listed.getD m false = true → A (a.eval dm) w) →
    (∀ j, j < n → done.getD j false = true) → anyX P md ops w0 m n done Q f listed a → wpAny P md ops Q' (f + g) listed a w
  | 0, listed, a, w, hb, _, _, hl, hdt, h => by
    rw [Nat.zero_add, h.1]
    exact hQ a w hb (fun hmn' => hl hmn' (by rw [h.1]; exact hdt m hmn')) h.2
  | f + 1, listed, a, w, hb, has, hsz, hl, hdt, h => by
    rw [show f + 1 + g = (f + g) + 1 by omega]
    refine ⟨fun h0 => absurd h0 h.1, fun i hi => ?_⟩
    obtain ⟨hin, o, ho, hop⟩ := h.2 i hi
    have hrec := any_of_X dm hA hm hd hmn hQ hdone f (listed.setIfInBounds i true)
    have his : i < listed.size := by rw [hsz]; exact (Array.getElem?_eq_some_iff.1 ho).1
    unfold wpOp
    simp only [ho]
    by_cases him : i = m
    · subst him
      obtain ⟨hg, hrun⟩ := hm o ho
      obtain ⟨u, w', hr, hbw, hau, hev⟩ := hrun a ⟨w, hb⟩ has
      have hr' : (execOp a.eval o).run P w = .ok (.value u) w' := hr
      have hbw' : Below w.heap.size w w' := hbw
      unfold extOp at hop
      rw [if_pos rfl] at hop
      rw [if_pos (by simp [Region.wanted, hg])]
      left
      unfold Oper.wp
      rw [hr']
      exact hrec _ _ (below_then hb hb.size hbw') (by rw [size_put]; exact has) (by simpa using hsz) (fun _ _ => by rw [hev]; exact hau) hdt (hop u)
    · unfold extOp at hop
      rw [if_neg him] at hop
      have hset : m < n → (listed.setIfInBounds i true).getD m false = true → listed.getD m false = true := fun _ hx => by rwa [getD_set_ne false him] at hx
      by_cases hw : Region.wanted o (yielded ops a.tmps) = true
      · rw [if_pos hw] at hop ⊢
        obtain ⟨v, hv, hK⟩ := hop
        have hx := hv ⟨w, hb⟩
        unfold extAt Ext.v at hx
        left
        unfold Oper.wp
        generalize (execOp a.eval o).run P w = r at hx
        have hfin : ∀ w'', Below w.heap.size w w'' → wpAny P md ops Q' (f + g) (listed.setIfInBounds i true) (a.put o.dst v) w'' := fun w'' hbw =>
          hrec _ _ (below_then hb hb.size hbw) (by rw [size_put]; exact has) (by simpa using hsz) (fun h1 h2 => by rw [hd i o ho hin him]; exact hA _ _ _ (hl h1 (hset h1 h2)) hbw) hdt hK
        cases r with
        | ok nx w' =>
          cases nx <;> simp only [extUpon] at hx <;> simp only [Oper.upon]
          case value u =>
            obtain ⟨rfl, rfl⟩ := hx
            exact hfin _ (Below.refl _ _)
          case skip =>
            obtain ⟨rfl, rfl⟩ := hx
            exact hfin _ (Below.refl _ _)
          case enter fn args =>
            obtain ⟨rfl, hc⟩ := hx
            exact hc.mono fun e w'' ⟨he, hbw⟩ => by subst he; exact hfin _ hbw
        | halt x w' => simp only [extUpon] at hx
      · rw [if_neg hw] at hop ⊢
        exact hrec _ _ hb (by rw [size_put]; exact has) (by simpa using hsz) (fun h1 h2 => by rw [hd i o ho hin him]; exact hl h1 (hset h1 h2)) hdt hop

/-- Behind the front all goes in one order. -/
def tailB (md : Region.Mode) (ops : Array Oper) : Nat → Nat → Array Bool → Bool
  | 0, _, listed => Region.ready md ops listed == []
  | f + 1, k, listed => Region.ready md ops listed == [k] && tailB md ops f (k + 1) (listed.setIfInBounds k true)

theorem any_tail {Q' : Exit → Act → World → Prop} : ∀ (l : List Oper) (k : Nat) (listed : Array Bool) (a : Act) (w : World), (∀ j, j < l.length → l[j]? = ops[k + j]?) → tailB md ops l.length k listed = true →
    wpList P ops Q' l a w → wpAny P md ops Q' l.length listed a w
  | [], _, _, _, _, _, hB, h => ⟨by simpa [tailB] using hB, h⟩
  | o :: l, k, listed, a, w, hl, hB, h => by
    have h0 : ops[k]? = some o := by simpa using (hl 0 (by simp)).symm
    simp only [List.length_cons, tailB, Bool.and_eq_true, beq_iff_eq] at hB
    have hl' : ∀ j, j < l.length → l[j]? = ops[k + 1 + j]? := fun j hj => by have := hl (j + 1) (by simp; omega); simpa [Nat.add_assoc, Nat.add_comm 1 j] using this
    refine ⟨fun e => (by rw [hB.1] at e; cases e), fun i hi => ?_⟩
    rw [hB.1] at hi
    obtain rfl : i = k := by simpa using hi
    have hop : wpOp P ops Q' i (wpList P ops Q' l) a w := by
      unfold wpOp
      simp only [h0]
      exact h
    exact wpOp_mono (fun a' w' h' => any_tail l (i + 1) _ a' w' hl' hB.2 h') hop

def doneArr (n size : Nat) : Array Bool := ((List.range size).map fun i => decide (i < n)).toArray
def extB (ops : Array Oper) (n m : Nat) : Bool :=
  decide (n ≤ ops.size) && Region.noSelect ops && waitsAll .any ops n && frontB .any ops m (doneArr n ops.size) n 0 (Array.replicate ops.size false) && tailB .any ops (ops.size - n) n (doneArr n ops.size)

theorem doneArr_size (n size : Nat) : (doneArr n size).size = size := by simp [doneArr]
theorem doneArr_getD (n size j : Nat) (d : Bool) (h : j < n) (hn : n ≤ size) : (doneArr n size).getD j d = true := by
  have : j < size := by omega
  simp [doneArr, this, h]

theorem wp_region_any_ext {id n m : Nat} {Q : Exit → Act → World → Prop} {a : Act} {w : World} {l : List Oper} {A : Value → World → Prop} (dm : Operand) (hmo : P.follows .mixedOrders = true) (hB : extB l.toArray n m = true)
    (hA : ∀ v w w', A v w → Below w.heap.size w w' → A v w')
    (hm : ∀ om, l.toArray[m]? = some om → om.guard = none ∧ ∀ (a' : Act) (x : Ext w.drew), a'.tmps.size = a.tmps.size → ∃ u w', (execOp a'.eval om).run P x.v = .ok (.value u) w' ∧ Below x.v.heap.size x.v w' ∧ A u w' ∧ (a'.put om.dst u).eval dm = u)
    (hd : ∀ i o, l.toArray[i]? = some o → i < n → i ≠ m → ∀ (a : Act) u, (a.put o.dst u).eval dm = a.eval dm)
    (hmn : m < n → m < l.length)
    (h : wpX P l.toArray w.drew m (fun a' => ∀ x : Ext w.drew, (m < n → A (a'.eval dm) x.v) → wpList P l.toArray Q (l.drop n) a' x.v) (l.take n) 0 a) : (Code.region id l.toArray true).wp P Q a w := by
  simp only [extB, Bool.and_eq_true, decide_eq_true_eq] at hB
  obtain ⟨⟨⟨⟨hn, hs⟩, hwait⟩, hfront⟩, htail⟩ := hB
  have hn' : n ≤ l.length := by simpa using hn
  refine wp_region_any hmo ?_
  have hlen : l.toArray.size = n + (l.toArray.size - n) := by omega
  have hX := anyX_front (md := .any) hs hwait (fun j hj => doneArr_getD n _ j true hj hn) (l.take n) 0 (Array.replicate l.toArray.size false) a
    (fun j hj => by rw [Nat.zero_add, List.getElem?_take_of_lt (by simp at hj; omega)]; simp) (by simp; omega) (by rw [List.length_take, Nat.min_eq_left hn']; exact hfront) h
  rw [List.length_take, Nat.min_eq_left hn'] at hX
  have hgo : wpAny P .any l.toArray Q (n + (l.toArray.size - n)) (Array.replicate l.toArray.size false) a w.drew := ?_
  · rw [← hlen] at hgo
    exact hgo
  refine any_of_X (w0 := w.drew) (g := l.toArray.size - n) dm hA hm hd (by simpa using hmn) (fun a' w' hb hl hq => ?_) (doneArr_size _ _) n _ a _ (Below.refl _ _) rfl (by simp) ?_ (fun j hj => doneArr_getD n _ j false hj hn) hX
  · have e : l.toArray.size - n = (l.drop n).length := by simp
    rw [e]
    exact any_tail (l.drop n) n _ a' w' (fun j hj => by simp [List.getElem?_drop]) (by rw [← e]; exact htail) (hq ⟨w', hb⟩ hl)
  · intro _ hx
    rw [getD_rep] at hx
    cases hx

/-- No allocation beside the others: the first n operations read, reckon and call; the rest follows in its one order. -/
theorem wp_region_ext {id : Nat} (n : Nat) {Q : Exit → Act → World → Prop} {a : Act} {w : World} {l : List Oper} (hmo : P.follows .mixedOrders = true) (hB : extB l.toArray n l.length = true)
    (h : wpX P l.toArray w.drew l.length (fun a' => ∀ x : Ext w.drew, wpList P l.toArray Q (l.drop n) a' x.v) (l.take n) 0 a) : (Code.region id l.toArray true).wp P Q a w := by
  have hB' := hB
  simp only [extB, Bool.and_eq_true, decide_eq_true_eq] at hB'
  have hn' : n ≤ l.length := by simpa using hB'.1.1.1.1
  refine wp_region_any_ext (A := fun _ _ => True) (.const undef) hmo hB (fun _ _ _ _ _ => trivial) (fun om ho => ?_) (fun i o _ _ _ a u => rfl) (fun h => by omega) ?_
  · rw [List.getElem?_toArray, List.getElem?_eq_none (Nat.le_refl _)] at ho
    cases ho
  · have e : (fun a' : Act => ∀ x : Ext w.drew, (l.length < n → (fun _ _ => True) (a'.eval (.const undef)) x.v) → wpList P l.toArray Q (l.drop n) a' x.v) = fun a' => ∀ x : Ext w.drew, wpList P l.toArray Q (l.drop n) a' x.v := by
      funext a'
      simp
    rw [e]
    exact h

/-- One variable is made beside the others: the last operation of the front. -/
theorem wp_region_alloc {id : Nat} (n d : Nat) (T : TypeId) (zs : Array Value) {Q : Exit → Act → World → Prop} {a : Act} {w : World} {l : List Oper} {om : Oper} (hmo : P.follows .mixedOrders = true) (hB : extB l.toArray (n + 1) n = true)
    (hom : l[n]? = some om) (hg : om.guard = none) (hdst : om.dst = some d) (hds : ((l.take n).all fun o => o.dst != some d) = true) (hlen : d < a.tmps.size)
    (hrun : ∀ (a : Act) (w : World), (execOp a.eval om).run P w = .ok (.value (.pointer (some ⟨w.heap.size, 0, none⟩))) (w.alloc (.cells zs T)))
    (h : wpX P l.toArray w.drew n (fun a' => ∀ (x : Ext w.drew) (b : Nat), w.heap.size ≤ b → x.v.heap[b]? = some (.cells zs T (0, 0)) → a'.eval (.tmp d) = .pointer (some ⟨b, 0, none⟩) → wpList P l.toArray Q (l.drop (n + 1)) a' x.v) (l.take (n + 1)) 0 a) : (Code.region id l.toArray true).wp P Q a w := by
  have hnl : n < l.length := (List.getElem?_eq_some_iff.1 hom).1
  refine wp_region_any_ext (A := fun u w' => ∃ b, u = .pointer (some ⟨b, 0, none⟩) ∧ w.heap.size ≤ b ∧ w'.heap[b]? = some (.cells zs T (0, 0))) (.tmp d) hmo hB ?_ ?_ ?_ (fun _ => hnl) ?_
  · rintro v w1 w2 ⟨b, rfl, hb, hz⟩ hbw
    exact ⟨b, rfl, hb, heap_below hz hbw (lt_of_block hz)⟩
  · intro om' ho'
    rw [List.getElem?_toArray, hom] at ho'
    obtain rfl : om = om' := Option.some.inj ho'
    refine ⟨hg, fun a' x hs => ⟨_, _, hrun a' x.v, (Below.refl _ _).alloc (Nat.le_refl _) _, ⟨_, rfl, x.below.size, heap_new _ _⟩, ?_⟩⟩
    rw [hdst]
    have : d < a'.tmps.size := by omega
    simp [Act.put, Act.eval, this]
  · intro i o ho hin him a' u
    rw [List.getElem?_toArray] at ho
    have h1 : o ∈ l.take n := List.mem_iff_getElem?.2 ⟨i, by rw [List.getElem?_take_of_lt (by omega)]; exact ho⟩
    have h2 := List.all_eq_true.1 hds o h1
    exact Act.eval_put fun d' hd' e => by
      injection e with e
      subst e
      rw [hd'] at h2
      simp at h2
  · have e : (fun a' : Act => ∀ x : Ext w.drew, (n < n + 1 → (fun u (w' : World) => ∃ b, u = Value.pointer (some ⟨b, 0, none⟩) ∧ w.heap.size ≤ b ∧ w'.heap[b]? = some (.cells zs T (0, 0))) (a'.eval (.tmp d)) x.v) → wpList P l.toArray Q (l.drop (n + 1)) a' x.v) =
        fun a' => ∀ (x : Ext w.drew) (b : Nat), w.heap.size ≤ b → x.v.heap[b]? = some (.cells zs T (0, 0)) → a'.eval (.tmp d) = .pointer (some ⟨b, 0, none⟩) → wpList P l.toArray Q (l.drop (n + 1)) a' x.v := by
      funext a'
      apply propext
      constructor
      · intro hh x b hb hz he
        exact hh x fun _ => ⟨b, he, hb, hz⟩
      · intro hh x hx
        obtain ⟨b, he, hb, hz⟩ := hx (by omega)
        exact hh x b hb hz he
    rw [e]
    exact h

/-- One operation at a time. -/
theorem wpX_step {m k : Nat} {Q : Act → Prop} {a : Act} {o : Oper} {rest : List Oper}
    (h : ∀ K : Act → Prop, (∀ a, wpX P ops w0 m Q rest (k + 1) a → K a) → extOp P ops w0 m k o K a) : wpX P ops w0 m Q (o :: rest) k a :=
  h _ (fun _ h => h)
theorem wpX_nil {m k : Nat} {Q : Act → Prop} {a : Act} (h : Q a) : wpX P ops w0 m Q [] k a := h

end
attribute [go_sem] extOp extAt extUpon Ext.cell Ext.frozen
end Go.Proofs.Ytkkoldfaplonaaa
