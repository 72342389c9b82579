/- A hash that has taken in some bytes, and what New, Write, Sum and Clone make of it. -/
import Derived.Test.YtkkoldfaplonaaaAwake
namespace Go.Proofs.Ytkkoldfaplonaaa
open Go.RowKit

/-- In block b lies a hash that has taken in l and counts tk bytes; its rest is v; all of it lies from block B on. -/
structure HS (B : Nat) (w : World) (b : Nat) (v : Value) (l : List UInt8) (tk : Nat) : Prop where
  st : StAt w B b 69 [.int .i64 (tk : Int)] (take1 (start0 []) l) v
  ge : B ≤ b

theorem HS.lt {B : Nat} {w : World} {b : Nat} {v : Value} {l : List UInt8} {tk : Nat} (h : HS B w b v l tk) : b < w.heap.size := lt_of_block h.st.blk
theorem HS.keeps {B : Nat} {w w' : World} {b : Nat} {v : Value} {l : List UInt8} {tk : Nat} (h : HS B w b v l tk) {S : Nat → Prop} (hk : Keeps S w w') (hb : ¬ S b) (hv : ∀ k, v.ownBlock = some k → ¬ S k) : HS B w' b v l tk :=
  ⟨⟨hk.heap h.st.blk hb, h.st.seg.kept hk hv, h.st.apart, h.st.len⟩, h.ge⟩
theorem HS.below {B : Nat} {w w' : World} {b : Nat} {v : Value} {l : List UInt8} {tk : Nat} (h : HS B w b v l tk) (hb : Below w.heap.size w w') : HS B w' b v l tk :=
  h.keeps (S := fun _ => False) (Keeps.of_below hb) (fun h => h) (fun _ _ h => h)

theorem feed_start (l : List UInt8) : (take1 (start0 []) l).count + (take1 (start0 []) l).rest.length = l.length ∧ (take1 (start0 []) l).rest.length ≤ 64 := by
  have h := feed_facts l.length (chain0 0) l 0 (Nat.le_refl _) rfl
  exact ⟨by have := h.2.1; rw [Nat.zero_add] at this; exact this, h.1⟩

theorem hs_new (B : Nat) (w : World) (hB : B ≤ w.heap.size) : Calls Try.prog 20 #[] w (fun e w' => ∃ b v, e = .returned (.pointer (some ⟨b, 0, none⟩)) ∧ HS B w' b v [] 0 ∧ Below w.heap.size w w') := by
  refine (new_any w).mono ?_
  rintro e w' ⟨b, v, rfl, hb, hst, hbl⟩
  rw [start_take] at hst
  exact ⟨b, v, rfl, ⟨⟨hst.blk, hst.seg.mono hB, hst.apart, hst.len⟩, by omega⟩, hbl⟩

/-- What Write leaves of a hash. -/
def HsWrite (B : Nat) (w : World) (b : Nat) (v : Value) (l : List UInt8) (tk : Nat) (w' : World) : Prop :=
  ∃ v', HS B w' b v' l tk ∧ Keeps (fun k => k = b ∨ some k = v.ownBlock) w w' ∧ (v'.ownBlock = v.ownBlock ∨ ∃ k, w.heap.size ≤ k ∧ v'.ownBlock = some k)
theorem flat_length (l : List ByteArray) : (flat l).length = tot l := by
  unfold flat tot
  induction l with
  | nil => rfl
  | cons s l ih =>
    rw [List.flatMap_cons, List.length_append, ih, List.map_cons, List.sum_cons]
    simp
theorem hs_write (B b : Nat) (v : Value) (l : List UInt8) (tk : Nat) (ps : List ByteArray) (a : Option Addr) (cap : Nat) (w : World) (h : HS B w b v l tk) (hB : B ≤ w.heap.size)
    (hn : l.length + tot ps ≤ 140737488355328) (htk : tk + tot ps ≤ 140737488355328) (hll : ps.length ≤ 9223372036854775807)
    (hl : StrsAt w a ps) (hap : 0 < ps.length → ∀ ad, a = some ad → ad.block ≠ b ∧ some ad.block ≠ v.ownBlock) :
    Calls Try.prog 21 #[.pointer (some ⟨b, 0, none⟩), .slice a ps.length cap] w (fun e w' => e = .returned (.int .i64 ((tk + tot ps : Nat) : Int)) ∧ HsWrite B w b v (l ++ flat ps) (tk + tot ps) w') := by
  have hf := (feed_start l).1
  refine (write_any B b 69 (take1 (start0 []) l) v tk ps a cap w h.st hB (by omega) htk hll hl hap).mono ?_
  rintro e w' ⟨rfl, v', hst, hk, hown⟩
  rw [takes_flat] at hst
  exact ⟨rfl, v', ⟨hst, h.ge⟩, hk, hown⟩
/-- Write of one string, laid in a row of its own. -/
theorem hs_write1 (B b : Nat) (v : Value) (l : List UInt8) (tk : Nat) (s : ByteArray) (w : World) (h : HS B w b v l tk) (hB : B ≤ w.heap.size) (hn : l.length + s.size ≤ 140737488355328) (htk : tk + s.size ≤ 140737488355328) :
    Calls Try.prog 21 #[.pointer (some ⟨b, 0, none⟩), .slice (some ⟨w.heap.size, 0, none⟩) 1 1] (w.alloc (.cells #[.string s] 9)) (fun e w' => e = .returned (.int .i64 ((tk + s.size : Nat) : Int)) ∧ HsWrite B w b v (l ++ s.data.toList) (tk + s.size) w') := by
  have hbl : Below w.heap.size w (w.alloc (.cells #[.string s] 9)) := (Below.refl _ _).alloc (Nat.le_refl _) _
  have e1 : tot [s] = s.size := by simp [tot]
  have e2 : flat [s] = s.data.toList := by simp [flat]
  have h1 := hs_write B b v l tk [s] (some ⟨w.heap.size, 0, none⟩) 1 _ (h.below hbl) (by simp; omega) (by rw [e1]; exact hn) (by rw [e1]; exact htk) (by simp)
    (fun j hj => by
      simp only [List.length_cons, List.length_nil] at hj
      obtain rfl : j = 0 := by omega
      exact ⟨⟨w.heap.size, 0, none⟩, rfl, by rw [addr_add, cell_of (heap_new w _)]; rfl⟩)
    (fun _ ad he => by
      injection he with he
      subst he
      exact ⟨fun e => by have h1 := h.lt; have e1 : w.heap.size = b := e; omega, fun e => by have h1 : w.heap.size < w.heap.size := (h.st.seg.lt _ e.symm).2; omega⟩)
  rw [e1, e2] at h1
  refine h1.mono ?_
  rintro e w' ⟨rfl, v', h2, hk, hown⟩
  refine ⟨rfl, v', h2, (Keeps.of_below (S := fun k => k = b ∨ some k = v.ownBlock) hbl).trans hk, ?_⟩
  rcases hown with ho | ⟨k, hk1, ho⟩
  · exact .inl ho
  · exact .inr ⟨k, by simp at hk1; omega, ho⟩

theorem hs_sum (B b : Nat) (v : Value) (l : List UInt8) (tk : Nat) (w : World) (h : HS B w b v l tk) (hn : l.length ≤ 140737488355328) :
    Calls Try.prog 22 #[.pointer (some ⟨b, 0, none⟩)] w (Ret (.string (S8 (dsum l))) w) :=
  hsum_any B b _ _ (take1 (start0 []) l) v w h.st (feed_start l).2 (by have := (feed_start l).1; omega)

theorem hs_clone (B b : Nat) (v : Value) (l : List UInt8) (tk : Nat) (w : World) (h : HS B w b v l tk) (hB : B ≤ w.heap.size) :
    Calls Try.prog 25 #[.pointer (some ⟨b, 0, none⟩)] w (fun e w' => ∃ b2 v2, e = .returned (.pointer (some ⟨b2, 0, none⟩)) ∧ HS B w' b2 v2 l tk ∧ w.heap.size ≤ b2 ∧ (∀ k, v2.ownBlock = some k → w.heap.size ≤ k) ∧ Below w.heap.size w w') := by
  refine (clone_any B b _ tk _ v w h.st (feed_start l).2).mono ?_
  rintro e w' ⟨b2, v2, rfl, hb2, hst, hbl⟩
  exact ⟨b2, v2, rfl, ⟨⟨hst.blk, hst.seg.mono hB, hst.apart, hst.len⟩, by omega⟩, hb2, fun k hk => (hst.seg.lt k hk).1, hbl⟩

end Go.Proofs.Ytkkoldfaplonaaa
