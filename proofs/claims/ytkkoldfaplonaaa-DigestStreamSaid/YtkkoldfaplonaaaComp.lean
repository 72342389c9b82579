/- The contracts of digest.initial, schedule, lane, digit and Compress. -/
import Derived.Test.YtkkoldfaplonaaaMix
import Derived.Test.YtkkoldfaplonaaaOps
import Derived.Laws.Rows
import Derived.Laws.CopyOwn
namespace Go.Proofs.Ytkkoldfaplonaaa
open Go.RowKit

def u32s (l : List UInt32) : List Value := l.map fun x => .int .u32 (n32 x)
def uAgg (l : List UInt32) : Value := .agg (u32s l).toArray

theorem n32_iv : u32s iv = [.int .u32 1779033703, .int .u32 3144134277, .int .u32 1013904242, .int .u32 2773480762, .int .u32 1359893119, .int .u32 2600822924, .int .u32 528734635, .int .u32 1541459225] := by
  have h0 : n32 0x6a09e667 = 1779033703 := by decide +kernel
  have h1 : n32 0xbb67ae85 = 3144134277 := by decide +kernel
  have h2 : n32 0x3c6ef372 = 1013904242 := by decide +kernel
  have h3 : n32 0xa54ff53a = 2773480762 := by decide +kernel
  have h4 : n32 0x510e527f = 1359893119 := by decide +kernel
  have h5 : n32 0x9b05688c = 2600822924 := by decide +kernel
  have h6 : n32 0x1f83d9ab = 528734635 := by decide +kernel
  have h7 : n32 0x5be0cd19 = 1541459225 := by decide +kernel
  simp only [u32s, iv, List.map, h0, h1, h2, h3, h4, h5, h6, h7]

set_option maxHeartbeats 400000 in
theorem initial_any (w : World) :
    Calls Try.prog 31 #[] w (Ret (uAgg iv) w) := by
  go_enter Try.func31, Try.ntmps31
  go_wp2
  refine bodyPost_ret (v := uAgg iv) (by simp [results, Try.results31, go_sem, uAgg, n32_iv]) rfl ⟨rfl, ?_⟩
  repeat (first | exact Below.refl _ _ | refine Below.setCell ?_ (by simp) _ | refine below_drewN ?_ _ | refine Below.alloc ?_ (by simp) _)

def laneVal (i : Nat) : Value := .agg #[.int .i64 (laneAt i 0), .int .i64 (laneAt i 1), .int .i64 (laneAt i 2), .int .i64 (laneAt i 3)]

theorem lane_cells (i : Nat) (hi : i < 8) : (#[Value.int .i64 0, .int .i64 4, .int .i64 8, .int .i64 12, .int .i64 1, .int .i64 5, .int .i64 9, .int .i64 13, .int .i64 2, .int .i64 6, .int .i64 10, .int .i64 14, .int .i64 3, .int .i64 7, .int .i64 11, .int .i64 15, .int .i64 0, .int .i64 5, .int .i64 10, .int .i64 15, .int .i64 1, .int .i64 6, .int .i64 11, .int .i64 12, .int .i64 2, .int .i64 7, .int .i64 8, .int .i64 13, .int .i64 3, .int .i64 4, .int .i64 9, .int .i64 14]).extract (i * 4) (i * 4 + 4) = #[.int .i64 (laneAt i 0), .int .i64 (laneAt i 1), .int .i64 (laneAt i 2), .int .i64 (laneAt i 3)] := by
  have h8 : i = 0 ∨ i = 1 ∨ i = 2 ∨ i = 3 ∨ i = 4 ∨ i = 5 ∨ i = 6 ∨ i = 7 := by omega
  rcases h8 with rfl | rfl | rfl | rfl | rfl | rfl | rfl | rfl <;> rfl

set_option maxHeartbeats 400000 in
theorem lane_any (i : Nat) (w : World) (hi : i < 8) :
    Calls Try.prog 33 #[.int .i64 i] w (Ret (laneVal i) w) := by
  have hix := fun w => run_index_agg (P := Try.prog) Try.underlying67 (fun w => by kernel_rfl) (by kernel_rfl) i hi _ (lane_cells i hi) w
  go_enter Try.func33, Try.ntmps33
  go_wp2
  refine bodyPost_ret (v := laneVal i) (by simp [results, Try.results33, go_sem, laneVal]) rfl ⟨rfl, ?_⟩
  repeat (first | exact Below.refl _ _ | refine Below.setCell ?_ (by simp) _ | refine below_drewN ?_ _ | refine Below.alloc ?_ (by simp) _)

def schedStr (r : Nat) : ByteArray := ⟨((rounds10.getD r []).map hexDigit).toArray⟩

theorem sched_cells (r : Nat) (hr : r < 10) : (#[Value.string ⟨#[48, 49, 50, 51, 52, 53, 54, 55, 56, 57, 97, 98, 99, 100, 101, 102]⟩, Value.string ⟨#[101, 97, 52, 56, 57, 102, 100, 54, 49, 99, 48, 50, 98, 55, 53, 51]⟩, Value.string ⟨#[98, 56, 99, 48, 53, 50, 102, 100, 97, 101, 51, 54, 55, 49, 57, 52]⟩, Value.string ⟨#[55, 57, 51, 49, 100, 99, 98, 101, 50, 54, 53, 97, 52, 48, 102, 56]⟩, Value.string ⟨#[57, 48, 53, 55, 50, 52, 97, 102, 101, 49, 98, 99, 54, 56, 51, 100]⟩, Value.string ⟨#[50, 99, 54, 97, 48, 98, 56, 51, 52, 100, 55, 53, 102, 101, 49, 57]⟩, Value.string ⟨#[99, 53, 49, 102, 101, 100, 52, 97, 48, 55, 54, 51, 57, 50, 56, 98]⟩, Value.string ⟨#[100, 98, 55, 101, 99, 49, 51, 57, 53, 48, 102, 52, 56, 54, 50, 97]⟩, Value.string ⟨#[54, 102, 101, 57, 98, 51, 48, 56, 99, 50, 100, 55, 49, 52, 97, 53]⟩, Value.string ⟨#[97, 50, 56, 52, 55, 54, 49, 53, 102, 98, 57, 101, 51, 99, 100, 48]⟩])[r]? = some (.string (schedStr r)) := by
  have h10 : r = 0 ∨ r = 1 ∨ r = 2 ∨ r = 3 ∨ r = 4 ∨ r = 5 ∨ r = 6 ∨ r = 7 ∨ r = 8 ∨ r = 9 := by omega
  rcases h10 with rfl | rfl | rfl | rfl | rfl | rfl | rfl | rfl | rfl | rfl <;> rfl

set_option maxHeartbeats 400000 in
theorem schedule_any (r : Nat) (w : World) (hr : r < 10) :
    Calls Try.prog 32 #[.int .i64 r] w fun e w' => e = .returned (.string (schedStr r)) ∧ w = w' := by
  have hix := fun w => run_index_one (P := Try.prog) Try.underlying73 (fun w => by kernel_rfl) (by kernel_rfl) r hr (.string (schedStr r)) (sched_cells r hr) w
  go_enter Try.func32, Try.ntmps32
  go_wp2
  go_ret
  exact ⟨rfl, rfl⟩

set_option maxHeartbeats 400000 in
theorem digit_any (x : Int) (w : World) (h0 : 48 ≤ x) (h1 : x < 256) :
    Calls Try.prog 34 #[.int .u8 x] w fun e w' => e = .returned (.int .i64 (if 97 ≤ x then x - 87 else x - 48)) ∧ w = w' := by
  go_enter Try.func34, Try.ntmps34
  go_wp2
  · have h : 97 ≤ x := by assumption
    go_ret
    exact ⟨ret_i64 (by omega), rfl⟩
  · have h : ¬ 97 ≤ x := by omega
    go_ret
    exact ⟨rfl, rfl⟩

end Go.Proofs.Ytkkoldfaplonaaa
