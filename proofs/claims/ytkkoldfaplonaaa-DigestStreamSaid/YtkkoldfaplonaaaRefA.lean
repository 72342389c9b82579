/- The contracts of the reference's initial and rows. -/
import Derived.Test.YtkkoldfaplonaaaCompA
namespace Go.Proofs.Ytkkoldfaplonaaa
open Go.RowKit

set_option maxHeartbeats 400000 in
theorem initialr_any (w : World) :
    Calls Try.prog 35 #[] w (Ret (uAgg iv) w) := by
  go_enter Try.func35, Try.ntmps35
  go_wp2
  refine bodyPost_ret (v := uAgg iv) (by simp [results, Try.results35, go_sem, uAgg, n32_iv]) rfl ⟨rfl, ?_⟩
  repeat (first | exact Below.refl _ _ | refine Below.setCell ?_ (by simp) _ | refine below_drewN ?_ _ | refine Below.alloc ?_ (by simp) _)

def rowCells : List Value := rounds10.flatten.map fun n : Nat => Value.int .i64 (n : Int)

def z160 : List Value := List.replicate 160 (.int .i64 0)
theorem zero160 (w : World) : (zeroValue 65).run Try.prog w = .ok (.agg z160.toArray) w := by kernel_rfl

set_option maxRecDepth 100000 in
set_option maxHeartbeats 4000000 in
theorem rows_any (w : World) :
    Calls Try.prog 36 #[] w (Ret (.agg rowCells.toArray) w) := by
  have hone : rowCells.toArray.all (·.oneCell') = true := by decide +kernel
  have hz := zero160
  have hzl : z160.length = 160 := rfl
  go_enter Try.func36, Try.ntmps36
  go_wp2_with (refine wpList_store_row rfl 65 _ _ rfl w.heap.size rowCells.toArray rfl rfl 65 _ (heap_new _ _) (by kernel_rfl) rfl hone ?_)
  refine bodyPost_ret (results_cell_row rfl _ _ w.heap.size 65 rowCells.toArray (0, 0) _ rfl (setRow_heap _ _ _ _ _ _ (heap_new _ _)) Try.underlying65 rfl (by kernel_rfl)) rfl ?_
  exact ⟨rfl, below_setRow ((Below.refl _ _).alloc (Nat.le_refl _) _) (Nat.le_refl _) _⟩

end Go.Proofs.Ytkkoldfaplonaaa
