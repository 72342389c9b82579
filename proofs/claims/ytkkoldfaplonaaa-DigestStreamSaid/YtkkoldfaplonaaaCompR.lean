/- The contract of the reference's Compress. -/
import Derived.Test.YtkkoldfaplonaaaRefA
import Derived.Test.YtkkoldfaplonaaaReg
import Derived.Deep.CutBlock
namespace Go.Proofs.Ytkkoldfaplonaaa
open Go.RowKit

attribute [local go_sem] u32_add u32_xor_n u32_or_n u32_not

/-- v while the chain value and the initial words are laid into it. -/
def cpN (h : List UInt32) : Nat → List UInt32
  | 0 => List.replicate 16 0
  | k + 1 => ((cpN h k).set k (at32 h k)).set (8 + k) (at32 iv k)
theorem length_cpN (h : List UInt32) (k : Nat) : (cpN h k).length = 16 := by
  induction k with
  | zero => rfl
  | succ k ih => simp [cpN, ih]
theorem cpN_eight (h0 h1 h2 h3 h4 h5 h6 h7 : UInt32) : cpN [h0, h1, h2, h3, h4, h5, h6, h7] 8 = [h0, h1, h2, h3, h4, h5, h6, h7] ++ iv := rfl
def laneCells : List Value := lanes.flatten.map fun n : Nat => Value.int .i64 (n : Int)
theorem laneCell (i j : Nat) (hi : i < 8) (hj : j < 4) : laneCells.toArray[i * 4 + j]? = some (.int .i64 (laneAt i j)) := by
  have h8 : i = 0 ∨ i = 1 ∨ i = 2 ∨ i = 3 ∨ i = 4 ∨ i = 5 ∨ i = 6 ∨ i = 7 := by omega
  have h4 : j = 0 ∨ j = 1 ∨ j = 2 ∨ j = 3 := by omega
  rcases h8 with rfl | rfl | rfl | rfl | rfl | rfl | rfl | rfl <;> rcases h4 with rfl | rfl | rfl | rfl <;> rfl
theorem rowCell_eq : ∀ r, r < 10 → ∀ j, j < 16 → rounds10.flatten[r * 16 + j]? = some (schedAt r j) := by decide +kernel
theorem rowCell (r j : Nat) (hr : r < 10) (hj : j < 16) : rowCells.toArray[r * 16 + j]? = some (.int .i64 (schedAt r j)) := by
  unfold rowCells
  rw [List.getElem?_toArray, List.getElem?_map, rowCell_eq r hr j hj]
  rfl
theorem size_setRow (w : World) (g : Nat) (cs : Array Value) : (w.setRow g cs).heap.size = w.heap.size := by simp [World.setRow]
attribute [local go_sem] size_setRow
theorem heap_new_row (w : World) (o1 o2 : Obj) (cs : Array Value) : (((w.alloc o1).setRow w.heap.size cs).alloc o2).heap[w.heap.size + 1]? = some o2 := by
  have h := heap_new ((w.alloc o1).setRow w.heap.size cs) o2
  rw [size_setRow, World.size_alloc] at h
  exact h
theorem heap_row_other {w : World} {b g : Nat} {x : Obj} (h : w.heap[b]? = some x) (hne : b ≠ g) (cs : Array Value) : (w.setRow g cs).heap[b]? = some x := by
  rw [setRow_other w g b cs hne]
  exact h

theorem mixr_lit (a b c d x y : UInt32) (w : World) :
    Calls Try.prog 17 #[.agg #[.int .u32 (n32 a), .int .u32 (n32 b), .int .u32 (n32 c), .int .u32 (n32 d)], .int .u32 (n32 x), .int .u32 (n32 y)] w
      (Ret (.agg #[.int .u32 (n32 (mix a b c d x y).a), .int .u32 (n32 (mix a b c d x y).b), .int .u32 (n32 (mix a b c d x y).c), .int .u32 (n32 (mix a b c d x y).d)]) w) := mixr_any a b c d x y w

/-- The blocks of a call of the reference's Compress, tables included. -/
structure CR (w0 : World) (bt bl : Nat) (h m v : List UInt32) (w : World) : Prop where
  cb : CB w0 w0.heap.size (w0.heap.size + 1) (w0.heap.size + 1 + 1) (w0.heap.size + 1 + 1 + 1) h m v w
  t : w.heap[bt]? = some (.cells rowCells.toArray 65 (0, 0))
  l : w.heap[bl]? = some (.cells laneCells.toArray 67 (0, 0))
  t4 : w0.heap.size + 4 ≤ bt
  l4 : w0.heap.size + 4 ≤ bl
theorem CR.grow {w0 w w' : World} {bt bl : Nat} {h m v : List UInt32} (hx : CR w0 bt bl h m v w) (hb : Below w.heap.size w w') : CR w0 bt bl h m v w' :=
  ⟨⟨heap_below hx.cb.h hb (lt_of_block hx.cb.h), heap_below hx.cb.m hb (lt_of_block hx.cb.m), heap_below hx.cb.r hb (lt_of_block hx.cb.r), heap_below hx.cb.v hb (lt_of_block hx.cb.v), below_then hx.cb.b hx.cb.b.size hb⟩,
    heap_below hx.t hb (lt_of_block hx.t), heap_below hx.l hb (lt_of_block hx.l), hx.t4, hx.l4⟩
theorem CR.store {w0 w : World} {bt bl : Nat} {h m v : List UInt32} (hx : CR w0 bt bl h m v w) {b : Nat} (h4 : w0.heap.size + 4 ≤ b) (ht : b ≠ bt) (hl : b ≠ bl) (o : Nat) (u : Value) : CR w0 bt bl h m v (w.setCell ⟨b, o, none⟩ u) :=
  ⟨⟨heap_set_other hx.cb.h (by simp <;> omega) _, heap_set_other hx.cb.m (by simp <;> omega) _, heap_set_other hx.cb.r (by simp <;> omega) _, heap_set_other hx.cb.v (by simp <;> omega) _, hx.cb.b.setCell (by simp <;> omega) _⟩,
    heap_set_other hx.t (by simp <;> omega) _, heap_set_other hx.l (by simp <;> omega) _, hx.t4, hx.l4⟩
theorem CR.setV {w0 w : World} {bt bl : Nat} {h m v : List UInt32} (hx : CR w0 bt bl h m v w) (j : Nat) (x : UInt32) : CR w0 bt bl h m (v.set j x) (w.setCell ⟨w0.heap.size + 1 + 1 + 1, j, none⟩ (.int .u32 (n32 x))) := by
  have h1 := heap_set hx.cb.v j (.int .u32 (n32 x))
  rw [u32s_set] at h1
  have h4 := hx.t4
  have h5 := hx.l4
  exact ⟨⟨heap_set_other hx.cb.h (by simp <;> omega) _, heap_set_other hx.cb.m (by simp <;> omega) _, heap_set_other hx.cb.r (by simp <;> omega) _, h1, hx.cb.b.setCell (by simp <;> omega) _⟩,
    heap_set_other hx.t (by simp <;> omega) _, heap_set_other hx.l (by simp <;> omega) _, hx.t4, hx.l4⟩
theorem CR.setH {w0 w : World} {bt bl : Nat} {h m v : List UInt32} (hx : CR w0 bt bl h m v w) (j : Nat) (x : UInt32) : CR w0 bt bl (h.set j x) m v (w.setCell ⟨w0.heap.size, j, none⟩ (.int .u32 (n32 x))) := by
  have h1 := heap_set hx.cb.h j (.int .u32 (n32 x))
  rw [u32s_set] at h1
  have h4 := hx.t4
  have h5 := hx.l4
  exact ⟨⟨h1, heap_set_other hx.cb.m (by simp <;> omega) _, heap_set_other hx.cb.r (by simp <;> omega) _, heap_set_other hx.cb.v (by simp <;> omega) _, hx.cb.b.setCell (by simp <;> omega) _⟩,
    heap_set_other hx.t (by simp <;> omega) _, heap_set_other hx.l (by simp <;> omega) _, hx.t4, hx.l4⟩

end Go.Proofs.Ytkkoldfaplonaaa
