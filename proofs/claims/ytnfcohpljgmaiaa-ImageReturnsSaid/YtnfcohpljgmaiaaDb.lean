/- The contracts of the digest's compression, the program's, and what the reference's needs. -/
import Derived.Test.YtnfcohpljgmaiaaDa
import Derived.Test.YtnfcohpljgmaiaaRows
import Derived.WalkKit
import Derived.WalkSpells
import Derived.WalkLawsBesides
import Derived.Deep.QuietTactic
import Derived.BigQuiet
import Derived.Laws.Rows
import Derived.Laws.CopyOwn
import Derived.Deep.RegionLaw
import Derived.Deep.CutBlock
namespace Go.Proofs.Ytnfcohpljgmaiaa

/-! ### Mix -/
section
open Go.RowKit

theorem u32_add (a b : UInt32) : (n32 a + n32 b) % 4294967296 = n32 (a + b) := by
  unfold n32
  rw [UInt32.toNat_add]
  omega
theorem u32_xor_n (a b : UInt32) : bits .xor .u32 (n32 a) (n32 b) = n32 (a ^^^ b) := by
  unfold n32
  rw [u32_xor_nat _ _ a.toNat_lt b.toNat_lt, UInt32.toNat_xor]
theorem u32_or_n (a b : UInt32) : bits .or .u32 (n32 a) (n32 b) = n32 (a ||| b) := by
  unfold n32
  rw [u32_or_nat _ _ a.toNat_lt b.toNat_lt, UInt32.toNat_or]
theorem rot_count (k : Int) : bits .and .u64 (IntKind.u64.wrap k) 31 = k % 32 := by
  have h := u64_and_nat (k % 18446744073709551616).toNat 31 (by omega) (by omega)
  have e : IntKind.u64.wrap k = ((k % 18446744073709551616).toNat : Int) := by
    simp [IntKind.wrap, IntKind.bits, IntKind.signed]
    omega
  rw [e, show (31 : Int) = ((31 : Nat) : Int) from rfl, h, show (31 : Nat) = 2 ^ 5 - 1 from rfl, Nat.and_two_pow_sub_one_eq_mod]
  omega
theorem rot_value (x : UInt32) (s : Nat) (hs : s < 32) : bits .or .u32 (n32 x * 2 ^ s % 4294967296) (n32 x / 2 ^ (32 - s)) = n32 (rotl x s) := by
  unfold n32
  have hx := x.toNat_lt
  have e1 : ((x.toNat : Int) * 2 ^ s % 4294967296) = ((x.toNat * 2 ^ s % 4294967296 : Nat) : Int) := by simp
  have e2 : ((x.toNat : Int) / 2 ^ (32 - s)) = ((x.toNat / 2 ^ (32 - s) : Nat) : Int) := by simp
  have hd : x.toNat / 2 ^ (32 - s) ≤ x.toNat := Nat.div_le_self _ _
  rw [e1, e2, u32_or_nat _ _ (Nat.mod_lt _ (by omega)) (by omega)]
  have hr : (rotl x s).toNat = (x.toBitVec.rotateLeft s).toNat := rfl
  rw [hr, BitVec.toNat_rotateLeft, Nat.mod_eq_of_lt hs, Nat.shiftLeft_eq, Nat.shiftRight_eq_div_pow]
  rfl

attribute [local go_sem] u32_add u32_xor_n u32_or_n

set_option maxHeartbeats 400000 in
theorem rot_any (x : UInt32) (k : Int) (w : World) :
    Calls Try.prog 79 #[.int .u32 (n32 x), .int .i64 k] w fun e w' => e = .returned (.int .u32 (n32 (rotl x (k % 32).toNat))) ∧ w = w' := by
  have h0 : 0 ≤ k % 32 := by omega
  have h1 : k % 32 < 32 := by omega
  have hc := rot_count k
  have hv := rot_value x (k % 32).toNat (by omega)
  have hs : (32 - k % 32).toNat = 32 - (k % 32).toNat := by omega
  go_enter Try.func79, Try.ntmps79
  go_wp2
  go_ret
  exact ⟨rfl, rfl⟩

def mixVal (q : Quad) : Value := .agg #[.int .u32 (n32 q.a), .int .u32 (n32 q.b), .int .u32 (n32 q.c), .int .u32 (n32 q.d)]

set_option maxHeartbeats 400000 in
theorem mix_any (a b c d x y : UInt32) (w : World) :
    Calls Try.prog 73 #[.agg #[.int .u32 (n32 a), .int .u32 (n32 b), .int .u32 (n32 c), .int .u32 (n32 d)], .int .u32 (n32 x), .int .u32 (n32 y)] w (Ret (mixVal (mix a b c d x y)) w) := by
  go_enter Try.func73, Try.ntmps73
  go_wp2
  go_quiet (fail)
  go_wp2_with (go_at_call 79; ((with_reducible refine (rot_any _ _ _).mono ?_); rintro e w' ⟨rfl, rfl⟩))
  refine bodyPost_ret (v := mixVal (mix a b c d x y)) (by simp [results, Try.results73, go_sem, mixVal, mix]) rfl ⟨rfl, ?_⟩
  repeat (first | exact Below.refl _ _ | refine Below.setCell ?_ (by simp) _ | refine below_drewN ?_ _ | refine Below.alloc ?_ (by simp) _)

end

/-! ### Comp -/
section
open Go.RowKit

def u32s (l : List UInt32) : List Value := l.map fun x => .int .u32 (n32 x)
def uAgg (l : List UInt32) : Value := .agg (u32s l).toArray

theorem n32_iv : u32s iv = [.int .u32 1779033703, .int .u32 3144134277, .int .u32 1013904242, .int .u32 2773480762, .int .u32 1359893119, .int .u32 2600822924, .int .u32 528734635, .int .u32 1541459225] := by
  have h0 : n32 0x6a09e667 = 1779033703 := by decide +kernel
  have h1 : n32 0xbb67ae85 = 3144134277 := by decide +kernel
  have h2 : n32 0x3c6ef372 = 1013904242 := by decide +kernel
  have h3 : n32 0xa54ff53a = 2773480762 := by decide +kernel
  have h4 : n32 0x510e527f = 1359893119 := by decide +kernel
  have h5 : n32 0x9b05688c = 2600822924 := by decide +kernel
  have h6 : n32 0x1f83d9ab = 528734635 := by decide +kernel
  have h7 : n32 0x5be0cd19 = 1541459225 := by decide +kernel
  simp only [u32s, iv, List.map, h0, h1, h2, h3, h4, h5, h6, h7]

set_option maxHeartbeats 400000 in
theorem initial_any (w : World) :
    Calls Try.prog 61 #[] w (Ret (uAgg iv) w) := by
  go_enter Try.func61, Try.ntmps61
  go_wp2
  refine bodyPost_ret (v := uAgg iv) (by simp [results, Try.results61, go_sem, uAgg, n32_iv]) rfl ⟨rfl, ?_⟩
  repeat (first | exact Below.refl _ _ | refine Below.setCell ?_ (by simp) _ | refine below_drewN ?_ _ | refine Below.alloc ?_ (by simp) _)

def laneVal (i : Nat) : Value := .agg #[.int .i64 (laneAt i 0), .int .i64 (laneAt i 1), .int .i64 (laneAt i 2), .int .i64 (laneAt i 3)]

theorem lane_cells (i : Nat) (hi : i < 8) : (#[Value.int .i64 0, .int .i64 4, .int .i64 8, .int .i64 12, .int .i64 1, .int .i64 5, .int .i64 9, .int .i64 13, .int .i64 2, .int .i64 6, .int .i64 10, .int .i64 14, .int .i64 3, .int .i64 7, .int .i64 11, .int .i64 15, .int .i64 0, .int .i64 5, .int .i64 10, .int .i64 15, .int .i64 1, .int .i64 6, .int .i64 11, .int .i64 12, .int .i64 2, .int .i64 7, .int .i64 8, .int .i64 13, .int .i64 3, .int .i64 4, .int .i64 9, .int .i64 14]).extract (i * 4) (i * 4 + 4) = #[.int .i64 (laneAt i 0), .int .i64 (laneAt i 1), .int .i64 (laneAt i 2), .int .i64 (laneAt i 3)] := by
  have h8 : i = 0 ∨ i = 1 ∨ i = 2 ∨ i = 3 ∨ i = 4 ∨ i = 5 ∨ i = 6 ∨ i = 7 := by omega
  rcases h8 with rfl | rfl | rfl | rfl | rfl | rfl | rfl | rfl <;> rfl

set_option maxHeartbeats 400000 in
theorem lane_any (i : Nat) (w : World) (hi : i < 8) :
    Calls Try.prog 72 #[.int .i64 i] w (Ret (laneVal i) w) := by
  have hix := fun w => run_index_agg (P := Try.prog) Try.underlying104 (fun w => by kernel_rfl) (by kernel_rfl) i hi _ (lane_cells i hi) w
  go_enter Try.func72, Try.ntmps72
  go_wp2
  refine bodyPost_ret (v := laneVal i) (by simp [results, Try.results72, go_sem, laneVal]) rfl ⟨rfl, ?_⟩
  repeat (first | exact Below.refl _ _ | refine Below.setCell ?_ (by simp) _ | refine below_drewN ?_ _ | refine Below.alloc ?_ (by simp) _)

def schedStr (r : Nat) : ByteArray := ⟨((rounds10.getD r []).map hexDigit).toArray⟩

theorem sched_cells (r : Nat) (hr : r < 10) : (#[Value.string ⟨#[48, 49, 50, 51, 52, 53, 54, 55, 56, 57, 97, 98, 99, 100, 101, 102]⟩, Value.string ⟨#[101, 97, 52, 56, 57, 102, 100, 54, 49, 99, 48, 50, 98, 55, 53, 51]⟩, Value.string ⟨#[98, 56, 99, 48, 53, 50, 102, 100, 97, 101, 51, 54, 55, 49, 57, 52]⟩, Value.string ⟨#[55, 57, 51, 49, 100, 99, 98, 101, 50, 54, 53, 97, 52, 48, 102, 56]⟩, Value.string ⟨#[57, 48, 53, 55, 50, 52, 97, 102, 101, 49, 98, 99, 54, 56, 51, 100]⟩, Value.string ⟨#[50, 99, 54, 97, 48, 98, 56, 51, 52, 100, 55, 53, 102, 101, 49, 57]⟩, Value.string ⟨#[99, 53, 49, 102, 101, 100, 52, 97, 48, 55, 54, 51, 57, 50, 56, 98]⟩, Value.string ⟨#[100, 98, 55, 101, 99, 49, 51, 57, 53, 48, 102, 52, 56, 54, 50, 97]⟩, Value.string ⟨#[54, 102, 101, 57, 98, 51, 48, 56, 99, 50, 100, 55, 49, 52, 97, 53]⟩, Value.string ⟨#[97, 50, 56, 52, 55, 54, 49, 53, 102, 98, 57, 101, 51, 99, 100, 48]⟩])[r]? = some (.string (schedStr r)) := by
  have h10 : r = 0 ∨ r = 1 ∨ r = 2 ∨ r = 3 ∨ r = 4 ∨ r = 5 ∨ r = 6 ∨ r = 7 ∨ r = 8 ∨ r = 9 := by omega
  rcases h10 with rfl | rfl | rfl | rfl | rfl | rfl | rfl | rfl | rfl | rfl <;> rfl

set_option maxHeartbeats 400000 in
theorem schedule_any (r : Nat) (w : World) (hr : r < 10) :
    Calls Try.prog 71 #[.int .i64 r] w fun e w' => e = .returned (.string (schedStr r)) ∧ w = w' := by
  have hix := fun w => run_index_one (P := Try.prog) Try.underlying105 (fun w => by kernel_rfl) (by kernel_rfl) r hr (.string (schedStr r)) (sched_cells r hr) w
  go_enter Try.func71, Try.ntmps71
  go_wp2
  go_ret
  exact ⟨rfl, rfl⟩

set_option maxHeartbeats 400000 in
theorem digit_any (x : Int) (w : World) (h0 : 48 ≤ x) (h1 : x < 256) :
    Calls Try.prog 74 #[.int .u8 x] w fun e w' => e = .returned (.int .i64 (if 97 ≤ x then x - 87 else x - 48)) ∧ w = w' := by
  go_enter Try.func74, Try.ntmps74
  go_wp2
  · have h : 97 ≤ x := by assumption
    go_ret
    exact ⟨ret_i64 (by omega), rfl⟩
  · have h : ¬ 97 ≤ x := by omega
    go_ret
    exact ⟨rfl, rfl⟩
end

/-! ### CompA -/
section
open Go.RowKit

theorem list8 {α : Type} {l : List α} (h : l.length = 8) : ∃ a0 a1 a2 a3 a4 a5 a6 a7, l = [a0, a1, a2, a3, a4, a5, a6, a7] := by
  match l, h with
  | [a0, a1, a2, a3, a4, a5, a6, a7], _ => exact ⟨_, _, _, _, _, _, _, _, rfl⟩
theorem list16 {α : Type} {l : List α} (h : l.length = 16) : ∃ a0 a1 a2 a3 a4 a5 a6 a7 a8 a9 a10 a11 a12 a13 a14 a15, l = [a0, a1, a2, a3, a4, a5, a6, a7, a8, a9, a10, a11, a12, a13, a14, a15] := by
  match l, h with
  | [a0, a1, a2, a3, a4, a5, a6, a7, a8, a9, a10, a11, a12, a13, a14, a15], _ => exact ⟨_, _, _, _, _, _, _, _, _, _, _, _, _, _, _, _, rfl⟩

theorem u32_cast (t : Nat) : (t : Int) % 4294967296 = n32 (UInt32.ofNat t) := by
  unfold n32
  rw [UInt32.toNat_ofNat']
  omega
theorem u32_high (t : Nat) (ht : t < 18446744073709551616) : (t : Int) / 4294967296 = n32 (UInt32.ofNat (t / 4294967296)) := by
  unfold n32
  rw [UInt32.toNat_ofNat']
  omega
theorem u32_not (x : UInt32) : bits .xor .u32 IntKind.u32.max (n32 x) = n32 (~~~ x) := by
  have e : IntKind.u32.max = n32 4294967295 := by decide +kernel
  rw [e, u32_xor_n]
  congr 1
attribute [local go_sem] u32_add u32_xor_n u32_or_n u32_not

theorem wp_gen {P : Program} {c : Code} {Q : Exit → Act → World → Prop} {a : Act} {w : World} (F : World → Prop) (h : F w) (k : ∀ w, F w → Code.wp P c Q a w) : Code.wp P c Q a w := k w h

/-- The blocks of a call of Compress. -/
structure CB (w0 : World) (bh bm br bv : Nat) (h m v : List UInt32) (w : World) : Prop where
  h : w.heap[bh]? = some (.cells (u32s h).toArray 64 (0, 0))
  m : w.heap[bm]? = some (.cells (u32s m).toArray 80 (0, 0))
  r : w.heap[br]? = some (.cells [Value.int .u32 0, Value.int .u32 0, Value.int .u32 0, Value.int .u32 0, Value.int .u32 0, Value.int .u32 0, Value.int .u32 0, Value.int .u32 0].toArray 64 (0, 0))
  v : w.heap[bv]? = some (.cells (u32s v).toArray 80 (0, 0))
  b : Below w0.heap.size w0 w

theorem lane_lit (i : Nat) (w : World) (hi : i < 8) : Calls Try.prog 72 #[.int .i64 i] w (Ret (.agg #[.int .i64 (laneAt i 0), .int .i64 (laneAt i 1), .int .i64 (laneAt i 2), .int .i64 (laneAt i 3)]) w) := lane_any i w hi
theorem sched_at (r j : Nat) (hr : r < 10) (hj : j < 16) : ∃ h : j < (schedStr r).size, 48 ≤ (((schedStr r)[j]'h).toNat : Int) ∧ (if 97 ≤ (((schedStr r)[j]'h).toNat : Int) then (((schedStr r)[j]'h).toNat : Int) - 87 else (((schedStr r)[j]'h).toNat : Int) - 48) = (schedAt r j : Int) := by
  have h : ∀ r, r < 10 → ∀ j, j < 16 → ∃ h : j < (schedStr r).size, 48 ≤ (((schedStr r)[j]'h).toNat : Int) ∧ (if 97 ≤ (((schedStr r)[j]'h).toNat : Int) then (((schedStr r)[j]'h).toNat : Int) - 87 else (((schedStr r)[j]'h).toNat : Int) - 48) = (schedAt r j : Int) := by decide +kernel
  exact h r hr j hj
def at32 (l : List UInt32) (i : Nat) : UInt32 := l.getD i 0
def Quad.at (q : Quad) : Nat → UInt32
  | 0 => q.a
  | 1 => q.b
  | 2 => q.c
  | _ => q.d
/-- v behind the first k stores of a mixing. -/
def setN (v : List UInt32) (i : Nat) (q : Quad) : Nat → List UInt32
  | 0 => v
  | k + 1 => (setN v i q k).set (laneAt i k) (q.at k)
theorem lane4 (i j : Nat) (hj : j < 4) : (#[Value.int .i64 (laneAt i 0), .int .i64 (laneAt i 1), .int .i64 (laneAt i 2), .int .i64 (laneAt i 3)])[j]? = some (.int .i64 (laneAt i j)) := by
  have h4 : j = 0 ∨ j = 1 ∨ j = 2 ∨ j = 3 := by omega
  rcases h4 with rfl | rfl | rfl | rfl <;> rfl
theorem quad4 (q : Quad) (j : Nat) (hj : j < 4) : (#[Value.int .u32 (n32 q.a), .int .u32 (n32 q.b), .int .u32 (n32 q.c), .int .u32 (n32 q.d)])[j]? = some (.int .u32 (n32 (q.at j))) := by
  have h4 : j = 0 ∨ j = 1 ∨ j = 2 ∨ j = 3 := by omega
  rcases h4 with rfl | rfl | rfl | rfl <;> rfl
/-- The chain value behind the first j words. -/
def finN (h v : List UInt32) : Nat → List UInt32
  | 0 => h
  | j + 1 => (finN h v j).set j (at32 (finN h v j) j ^^^ (at32 v j ^^^ at32 v (j + 8)))
theorem length_finN (h v : List UInt32) (j : Nat) : (finN h v j).length = h.length := by
  induction j with
  | zero => rfl
  | succ j ih => simp [finN, ih]
theorem finN_eight (h0 h1 h2 h3 h4 h5 h6 h7 : UInt32) (v : List UInt32) : finN [h0, h1, h2, h3, h4, h5, h6, h7] v 8 = fin8 [h0, h1, h2, h3, h4, h5, h6, h7] v := rfl
theorem setN_four (v : List UInt32) (i : Nat) (q : Quad) : setN v i q 4 = set4 v i q := rfl
theorem length_setN (v : List UInt32) (i : Nat) (q : Quad) (k : Nat) : (setN v i q k).length = v.length := by
  induction k with
  | zero => rfl
  | succ k ih => simp [setN, ih]
theorem u32s_set (v : List UInt32) (j : Nat) (x : UInt32) : (u32s v).toArray.setIfInBounds j (.int .u32 (n32 x)) = (u32s (v.set j x)).toArray := by
  simp [u32s, List.map_set]
theorem mix_lit (a b c d x y : UInt32) (w : World) :
    Calls Try.prog 73 #[.agg #[.int .u32 (n32 a), .int .u32 (n32 b), .int .u32 (n32 c), .int .u32 (n32 d)], .int .u32 (n32 x), .int .u32 (n32 y)] w
      (Ret (.agg #[.int .u32 (n32 (mix a b c d x y).a), .int .u32 (n32 (mix a b c d x y).b), .int .u32 (n32 (mix a b c d x y).c), .int .u32 (n32 (mix a b c d x y).d)]) w) := mix_any a b c d x y w
theorem digit_at (r j : Nat) (hr : r < 10) (hj : j < 16) (h : j < (schedStr r).size) (w : World) : Calls Try.prog 74 #[.int .u8 (((schedStr r)[j]'h).toNat : Int)] w (Ret (.int .i64 (schedAt r j : Int)) w) := by
  obtain ⟨h', h1, h2⟩ := sched_at r j hr hj
  have h3 := ((schedStr r)[j]'h).toNat_lt
  have h4 := digit_any (((schedStr r)[j]'h).toNat : Int) w h1 (by omega)
  rw [h2] at h4
  exact h4.mono fun e w' ⟨he, hw⟩ => ⟨he, by subst hw; exact Below.refl _ _⟩
theorem cell_u32 {w : World} {b : Nat} {l : List UInt32} {t : TypeId} {f : Nat × Nat} (h : w.heap[b]? = some (.cells (u32s l).toArray t f)) (i : Nat) (hi : i < l.length) :
    w.cell? ⟨b, i, none⟩ = some (.int .u32 (n32 (at32 l i))) := by
  rw [cell_of h]
  unfold at32
  simp [u32s, List.getElem?_eq_getElem hi, List.getD_eq_getElem?_getD]

set_option maxRecDepth 100000 in
set_option maxHeartbeats 1000000 in
theorem compress_any (h m : List UInt32) (t : Nat) (last : Bool) (w : World) (hh : h.length = 8) (hm : m.length = 16) (ht : t < 18446744073709551616) :
    Calls Try.prog 62 #[uAgg h, uAgg m, .int .u64 t, .bool last] w (Ret (uAgg (compress h m t last)) w) := by
  obtain ⟨h0, h1, h2, h3, h4, h5, h6, h7, rfl⟩ := list8 hh
  obtain ⟨m0, m1, m2, m3, m4, m5, m6, m7, m8, m9, m10, m11, m12, m13, m14, m15, rfl⟩ := list16 hm
  clear hh hm
  have hini := fun w => initial_any w
  simp only [uAgg, u32s, iv, List.map] at hini
  generalize hR : uAgg (compress _ _ _ _) = R
  simp only [uAgg, u32s, List.map]
  have HR := Lib.hid hR
  clear hR
  have Hini := Lib.hid hini
  clear hini
  have c1 := u32_cast t
  have c2 := u32_high t ht
  go_enter Try.func62, Try.ntmps62
  go_wp2_with fail
  refine (Hini.out _).mono ?_
  rintro e w1 ⟨rfl, hb⟩
  have hz : w.heap.size + 4 ≤ w1.heap.size := by have := hb.size; simp at this; omega
  obtain ⟨hc, hf⟩ := bcell hb
  go_wp2_with fail
  clear hc hf
  obtain ⟨W, hW⟩ : ∃ W, W = w1.alloc (.cells #[Value.int .u32 (n32 0x6a09e667), Value.int .u32 (n32 0xbb67ae85), Value.int .u32 (n32 0x3c6ef372), Value.int .u32 (n32 0xa54ff53a), Value.int .u32 (n32 0x510e527f), Value.int .u32 (n32 0x9b05688c), Value.int .u32 (n32 0x1f83d9ab), Value.int .u32 (n32 0x5be0cd19)] 64) := ⟨_, rfl⟩
  have g0 : W.heap[w.heap.size]? = some (.cells [Value.int .u32 (n32 h0), Value.int .u32 (n32 h1), Value.int .u32 (n32 h2), Value.int .u32 (n32 h3), Value.int .u32 (n32 h4), Value.int .u32 (n32 h5), Value.int .u32 (n32 h6), Value.int .u32 (n32 h7)].toArray 64 (0, 0)) := by
    rw [hW]
    exact heap_old (heap_below (heap_old (heap_old (heap_old (heap_new _ _) _) _) _) hb (by simp; omega)) _
  have g1 : W.heap[w.heap.size + 1]? = some (.cells [Value.int .u32 (n32 m0), Value.int .u32 (n32 m1), Value.int .u32 (n32 m2), Value.int .u32 (n32 m3), Value.int .u32 (n32 m4), Value.int .u32 (n32 m5), Value.int .u32 (n32 m6), Value.int .u32 (n32 m7), Value.int .u32 (n32 m8), Value.int .u32 (n32 m9), Value.int .u32 (n32 m10), Value.int .u32 (n32 m11), Value.int .u32 (n32 m12), Value.int .u32 (n32 m13), Value.int .u32 (n32 m14), Value.int .u32 (n32 m15)].toArray 80 (0, 0)) := by
    rw [hW]
    exact heap_old (heap_below (heap_old (heap_old (by simpa using heap_new (w.alloc _) _) _) _) hb (by simp)) _
  have g2 : W.heap[w.heap.size + 1 + 1]? = some (.cells [Value.int .u32 0, Value.int .u32 0, Value.int .u32 0, Value.int .u32 0, Value.int .u32 0, Value.int .u32 0, Value.int .u32 0, Value.int .u32 0].toArray 64 (0, 0)) := by
    rw [hW]
    exact heap_old (heap_below (heap_old (by simpa using heap_new ((w.alloc _).alloc _) _) _) hb (by simp)) _
  have g3 : W.heap[w.heap.size + 1 + 1 + 1]? = some (.cells [Value.int .u32 0, Value.int .u32 0, Value.int .u32 0, Value.int .u32 0, Value.int .u32 0, Value.int .u32 0, Value.int .u32 0, Value.int .u32 0, Value.int .u32 0, Value.int .u32 0, Value.int .u32 0, Value.int .u32 0, Value.int .u32 0, Value.int .u32 0, Value.int .u32 0, Value.int .u32 0].toArray 80 (0, 0)) := by
    rw [hW]
    exact heap_old (heap_below (by simpa using heap_new (((w.alloc _).alloc _).alloc _) _) hb (by simp)) _
  have g4 : W.heap[w1.heap.size]? = some (.cells [Value.int .u32 (n32 0x6a09e667), Value.int .u32 (n32 0xbb67ae85), Value.int .u32 (n32 0x3c6ef372), Value.int .u32 (n32 0xa54ff53a), Value.int .u32 (n32 0x510e527f), Value.int .u32 (n32 0x9b05688c), Value.int .u32 (n32 0x1f83d9ab), Value.int .u32 (n32 0x5be0cd19)].toArray 64 (0, 0)) := by
    rw [hW]
    exact heap_new _ _
  have gB : Below w.heap.size w W := by
    rw [hW]
    exact (((((Below.refl _ _).alloc (by simp <;> omega) _).alloc (by simp <;> omega) _).alloc (by simp; omega) _).alloc (by simp; omega) _ |>.trans (hb.mono (by simp; omega))).alloc (by omega) _
  rw [← hW]
  clear hW hb
  go_region_law (refine step_copy_keeps rfl (.tmp 20) (.tmp 21) 94 94 rfl 63 Try.underlying94 (by kernel_rfl) (w.heap.size + 1 + 1 + 1) 0 _ _ _ _ _ rfl rfl [Value.int .u32 0, Value.int .u32 0, Value.int .u32 0, Value.int .u32 0, Value.int .u32 0, Value.int .u32 0, Value.int .u32 0, Value.int .u32 0, Value.int .u32 0, Value.int .u32 0, Value.int .u32 0, Value.int .u32 0, Value.int .u32 0, Value.int .u32 0, Value.int .u32 0, Value.int .u32 0] 80 g3 [Value.int .u32 (n32 h0), Value.int .u32 (n32 h1), Value.int .u32 (n32 h2), Value.int .u32 (n32 h3), Value.int .u32 (n32 h4), Value.int .u32 (n32 h5), Value.int .u32 (n32 h6), Value.int .u32 (n32 h7)] rfl (news_of (w := W.drew) (l := [Value.int .u32 (n32 h0), Value.int .u32 (n32 h1), Value.int .u32 (n32 h2), Value.int .u32 (n32 h3), Value.int .u32 (n32 h4), Value.int .u32 (n32 h5), Value.int .u32 (n32 h6), Value.int .u32 (n32 h7)]) g0) (by simp) (by simp [Value.oneCell']) ?_; intro W2 q3 qK)
  simp only [splice, List.take, List.drop, List.length, List.nil_append, List.cons_append] at q3
  have q0 := qK.heap (w := W.drew) g0 (by omega)
  have q1 := qK.heap (w := W.drew) g1 (by omega)
  have q2 := qK.heap (w := W.drew) g2 (by omega)
  have q4 := qK.heap (w := W.drew) g4 (by omega)
  have qB := gB.drew.trans (qK.below (B := w.heap.size) gB.drew.size (by intro k hk; omega))
  clear g0 g1 g2 g3 g4 gB qK
  go_wp2_with fail
  go_region_law (refine step_copy_keeps rfl (.tmp 23) (.tmp 24) 94 94 rfl 63 Try.underlying94 (by kernel_rfl) (w.heap.size + 1 + 1 + 1) 8 _ _ _ _ _ rfl rfl [Value.int .u32 (n32 h0), Value.int .u32 (n32 h1), Value.int .u32 (n32 h2), Value.int .u32 (n32 h3), Value.int .u32 (n32 h4), Value.int .u32 (n32 h5), Value.int .u32 (n32 h6), Value.int .u32 (n32 h7), Value.int .u32 0, Value.int .u32 0, Value.int .u32 0, Value.int .u32 0, Value.int .u32 0, Value.int .u32 0, Value.int .u32 0, Value.int .u32 0] 80 q3 [Value.int .u32 (n32 0x6a09e667), Value.int .u32 (n32 0xbb67ae85), Value.int .u32 (n32 0x3c6ef372), Value.int .u32 (n32 0xa54ff53a), Value.int .u32 (n32 0x510e527f), Value.int .u32 (n32 0x9b05688c), Value.int .u32 (n32 0x1f83d9ab), Value.int .u32 (n32 0x5be0cd19)] rfl (news_of (w := W2.drew) (l := [Value.int .u32 (n32 0x6a09e667), Value.int .u32 (n32 0xbb67ae85), Value.int .u32 (n32 0x3c6ef372), Value.int .u32 (n32 0xa54ff53a), Value.int .u32 (n32 0x510e527f), Value.int .u32 (n32 0x9b05688c), Value.int .u32 (n32 0x1f83d9ab), Value.int .u32 (n32 0x5be0cd19)]) q4) (by simp) (by simp [Value.oneCell']) ?_; intro W3 g3 qK)
  simp only [splice, List.take, List.drop, List.length, List.nil_append, List.cons_append] at g3
  have g0 := qK.heap (w := W2.drew) q0 (by omega)
  have g1 := qK.heap (w := W2.drew) q1 (by omega)
  have g2 := qK.heap (w := W2.drew) q2 (by omega)
  have gB := qB.drew.trans (qK.below (B := w.heap.size) qB.drew.size (by intro k hk; omega))
  clear q0 q1 q2 q3 q4 qB qK W W2
  have v12 : W3.cell? ⟨w.heap.size + 1 + 1 + 1, 12, none⟩ = some (.int .u32 (n32 0x510e527f)) := by rw [cell_of g3]; rfl
  have v13 : W3.cell? ⟨w.heap.size + 1 + 1 + 1, 13, none⟩ = some (.int .u32 (n32 0x9b05688c)) := by rw [cell_of g3]; rfl
  have v14 : W3.cell? ⟨w.heap.size + 1 + 1 + 1, 14, none⟩ = some (.int .u32 (n32 0x1f83d9ab)) := by rw [cell_of g3]; rfl
  have f12 : W3.frozen? ⟨w.heap.size + 1 + 1 + 1, 12, none⟩ = false := frozen_of g3 _
  have f13 : W3.frozen? ⟨w.heap.size + 1 + 1 + 1, 13, none⟩ = false := frozen_of g3 _
  have f14 : W3.frozen? ⟨w.heap.size + 1 + 1 + 1, 14, none⟩ = false := frozen_of g3 _
  have H0 := Lib.hid g0
  have H1 := Lib.hid g1
  have H2 := Lib.hid g2
  have H3 := Lib.hid g3
  have HB := Lib.hid gB
  clear g0 g1 g2 g3 gB
  cases last
  · go_wp2
    refine wp_gen (CB w w.heap.size (w.heap.size + 1) (w.heap.size + 1 + 1) (w.heap.size + 1 + 1 + 1) [h0, h1, h2, h3, h4, h5, h6, h7] [m0, m1, m2, m3, m4, m5, m6, m7, m8, m9, m10, m11, m12, m13, m14, m15] (v0 [h0, h1, h2, h3, h4, h5, h6, h7] t false)) ?_ ?_
    · exact ⟨heap_set_other (heap_set_other H0.out (by simp <;> omega) _) (by simp <;> omega) _, heap_set_other (heap_set_other H1.out (by simp <;> omega) _) (by simp <;> omega) _, heap_set_other (heap_set_other H2.out (by simp <;> omega) _) (by simp <;> omega) _,
        heap_set (heap_set H3.out _ _) _ _, (HB.out.setCell (by simp; omega) _).setCell (by simp; omega) _⟩
    · intro W4 hCB
      clear c1 c2 v12 v13 v14 f12 f13 f14 H0 H1 H2 H3 HB
      obtain ⟨hs, hhs⟩ : ∃ hs, hs = [h0, h1, h2, h3, h4, h5, h6, h7] := ⟨_, rfl⟩
      obtain ⟨ms, hms⟩ : ∃ ms, ms = [m0, m1, m2, m3, m4, m5, m6, m7, m8, m9, m10, m11, m12, m13, m14, m15] := ⟨_, rfl⟩
      rw [← hhs, ← hms] at hCB
      have Hhs := Lib.hid hhs
      have Hms := Lib.hid hms
      clear hhs hms
      go_loopw [44] (fun k wr => ∃ r : Nat, r ≤ 10 ∧ k = .int .i64 r ∧ CB w w.heap.size (w.heap.size + 1) (w.heap.size + 1 + 1) (w.heap.size + 1 + 1 + 1) hs ms (laps ms (v0 hs t false) r) wr) (fun k _ => 10 - (intOf k).toNat)
      case atStart => exact ⟨0, by omega, rfl, hCB⟩
      case round =>
        obtain ⟨r, hr, rfl, hcb⟩ := hrel
        by_cases hlt : r < 10
        · go_wp2_with (go_at_call 71; (with_reducible refine (schedule_any r _ hlt).mono ?_); rintro e w' ⟨rfl, rfl⟩)
          go_loopw [49] (fun k wr => ∃ i : Nat, i ≤ 8 ∧ k = .int .i64 i ∧ CB w w.heap.size (w.heap.size + 1) (w.heap.size + 1 + 1) (w.heap.size + 1 + 1 + 1) hs ms (lap ms (laps ms (v0 hs t false) r) r i) wr) (fun k _ => 8 - (intOf k).toNat)
          case atStart => exact ⟨0, by omega, rfl, hcb⟩
          case round =>
            obtain ⟨i, hi, rfl, hcb⟩ := hrel
            by_cases hli : i < 8
            · go_wp2_with (go_at_call 72; (with_reducible refine (lane_lit i _ hli).mono ?_); rintro e w2 ⟨rfl, hb2⟩)
              obtain ⟨vs, hvs⟩ : ∃ vs, vs = lap ms (laps ms (v0 hs t false) r) r i := ⟨_, rfl⟩
              rw [← hvs] at hcb
              have Hvs := Lib.hid hvs
              clear hvs
              refine wp_gen (fun W => CB w w.heap.size (w.heap.size + 1) (w.heap.size + 1 + 1) (w.heap.size + 1 + 1 + 1) hs ms vs W ∧ W.heap[w2.heap.size]? = some (.cells #[.int .i64 (laneAt i 0), .int .i64 (laneAt i 1), .int .i64 (laneAt i 2), .int .i64 (laneAt i 3)] 96 (0, 0))) ?_ ?_
              · refine ⟨⟨heap_old (heap_below hcb.h hb2 (lt_of_block hcb.h)) _, heap_old (heap_below hcb.m hb2 (lt_of_block hcb.m)) _, heap_old (heap_below hcb.r hb2 (lt_of_block hcb.r)) _, heap_old (heap_below hcb.v hb2 (lt_of_block hcb.v)) _, ?_⟩, heap_new _ _⟩
                exact (below_then hcb.b hcb.b.size hb2).alloc (by have := hb2.size; have := hcb.b.size; omega) _
              rintro W ⟨hcb', hl⟩
              have hz2 : w.heap.size + 4 ≤ w2.heap.size := by have := lt_of_block hcb.v; have := hb2.size; omega
              have hlt0 := laneAt_lt i 0
              have hlt1 := laneAt_lt i 1
              have hlt2 := laneAt_lt i 2
              have hlt3 := laneAt_lt i 3
              have hmt0 := schedAt_lt r (2 * i)
              have hmt1 := schedAt_lt r (2 * i + 1)
              obtain ⟨hd0, hd1, hd2⟩ := sched_at r (2 * i) hlt (by omega)
              obtain ⟨he0, he1, he2⟩ := sched_at r (2 * i + 1) hlt (by omega)
              have l0 : ∀ x : Ext W.drew, x.v.cell? ⟨w2.heap.size, 0, none⟩ = some (.int .i64 (laneAt i 0)) := fun x => (x.cell _ _ (lt_of_block hl)).trans (by show W.cell? _ = _; rw [cell_of hl]; rfl)
              have l1 : ∀ x : Ext W.drew, x.v.cell? ⟨w2.heap.size, 1, none⟩ = some (.int .i64 (laneAt i 1)) := fun x => (x.cell _ _ (lt_of_block hl)).trans (by show W.cell? _ = _; rw [cell_of hl]; rfl)
              have l2 : ∀ x : Ext W.drew, x.v.cell? ⟨w2.heap.size, 2, none⟩ = some (.int .i64 (laneAt i 2)) := fun x => (x.cell _ _ (lt_of_block hl)).trans (by show W.cell? _ = _; rw [cell_of hl]; rfl)
              have l3 : ∀ x : Ext W.drew, x.v.cell? ⟨w2.heap.size, 3, none⟩ = some (.int .i64 (laneAt i 3)) := fun x => (x.cell _ _ (lt_of_block hl)).trans (by show W.cell? _ = _; rw [cell_of hl]; rfl)
              have hvl : vs.length = 16 := by rw [Hvs.out, length_lap, length_laps, Hhs.out]; rfl
              have hml : ms.length = 16 := by rw [Hms.out]; rfl
              have c0 : ∀ x : Ext W.drew, x.v.cell? ⟨w.heap.size + 1 + 1 + 1, laneAt i 0, none⟩ = some (.int .u32 (n32 (at32 vs (laneAt i 0)))) := fun x => (x.cell _ _ (lt_of_block hcb'.v)).trans (cell_u32 hcb'.v (laneAt i 0) (by omega))
              have c1 : ∀ x : Ext W.drew, x.v.cell? ⟨w.heap.size + 1 + 1 + 1, laneAt i 1, none⟩ = some (.int .u32 (n32 (at32 vs (laneAt i 1)))) := fun x => (x.cell _ _ (lt_of_block hcb'.v)).trans (cell_u32 hcb'.v (laneAt i 1) (by omega))
              have c2 : ∀ x : Ext W.drew, x.v.cell? ⟨w.heap.size + 1 + 1 + 1, laneAt i 2, none⟩ = some (.int .u32 (n32 (at32 vs (laneAt i 2)))) := fun x => (x.cell _ _ (lt_of_block hcb'.v)).trans (cell_u32 hcb'.v (laneAt i 2) (by omega))
              have c3 : ∀ x : Ext W.drew, x.v.cell? ⟨w.heap.size + 1 + 1 + 1, laneAt i 3, none⟩ = some (.int .u32 (n32 (at32 vs (laneAt i 3)))) := fun x => (x.cell _ _ (lt_of_block hcb'.v)).trans (cell_u32 hcb'.v (laneAt i 3) (by omega))
              have k0 : ∀ x : Ext W.drew, x.v.cell? ⟨w.heap.size + 1, schedAt r (2 * i), none⟩ = some (.int .u32 (n32 (at32 ms (schedAt r (2 * i))))) := fun x => (x.cell _ _ (lt_of_block hcb'.m)).trans (cell_u32 hcb'.m (schedAt r (2 * i)) (by omega))
              have k1 : ∀ x : Ext W.drew, x.v.cell? ⟨w.heap.size + 1, schedAt r (2 * i + 1), none⟩ = some (.int .u32 (n32 (at32 ms (schedAt r (2 * i + 1))))) := fun x => (x.cell _ _ (lt_of_block hcb'.m)).trans (cell_u32 hcb'.m (schedAt r (2 * i + 1)) (by omega))
              have hI0 : ((laneAt i 0 : Nat) : Int) < 16 := by omega
              have hI1 : ((laneAt i 1 : Nat) : Int) < 16 := by omega
              have hI2 : ((laneAt i 2 : Nat) : Int) < 16 := by omega
              have hI3 : ((laneAt i 3 : Nat) : Int) < 16 := by omega
              have hJ0 : ((schedAt r (2 * i) : Nat) : Int) < 16 := by omega
              have hJ1 : ((schedAt r (2 * i + 1) : Nat) : Int) < 16 := by omega
              have hw0 : IntKind.i64.wrap (2 * (i : Int)) = 2 * (i : Int) := IntWalk.i64_in _ (by omega)
              have hw1 : IntKind.i64.wrap (2 * (i : Int) + 1) = 2 * (i : Int) + 1 := IntWalk.i64_in _ (by omega)
              have hp0 : 0 ≤ 2 * (i : Int) := by omega
              have hp1 : 0 ≤ 2 * (i : Int) + 1 := by omega
              have hq0 : 2 * (i : Int) < ((schedStr r).size : Int) := by omega
              have hq1 : 2 * (i : Int) + 1 < ((schedStr r).size : Int) := by omega
              have ht0 : (2 * (i : Int)).toNat = 2 * i := by omega
              have ht1 : (2 * (i : Int) + 1).toNat = 2 * i + 1 := by omega
              have hsz := lt_of_block hl
              refine wp_region_alloc 33 15 98 #[.int .u32 0, .int .u32 0, .int .u32 0, .int .u32 0] (by kernel_rfl) (by kernel_rfl) rfl rfl rfl (by kernel_rfl) (by simp) (fun a w => by go_simp) ?_
              iterate 21 (refine wpX_step (fun K hK => ?_); go_simp; refine hK _ ?_; clear hK K)
              refine wpX_step (fun K hK => ?_)
              go_simp
              refine ⟨_, fun x => digit_at r (2 * i) hlt (by omega) hd0 x.v, hK _ ?_⟩
              clear hK K
              iterate 7 (refine wpX_step (fun K hK => ?_); go_simp; refine hK _ ?_; clear hK K)
              refine wpX_step (fun K hK => ?_)
              go_simp
              refine ⟨_, fun x => digit_at r (2 * i + 1) hlt (by omega) he0 x.v, hK _ ?_⟩
              clear hK K
              iterate 2 (refine wpX_step (fun K hK => ?_); go_simp; refine hK _ ?_; clear hK K)
              refine wpX_step (fun K hK => ?_)
              go_simp
              refine ⟨_, fun x => mix_lit _ _ _ _ _ _ x.v, hK _ ?_⟩
              clear hK K
              refine wpX_step (fun K hK => ?_)
              go_simp
              intro xv
              refine hK _ ?_
              clear hK K
              refine wpX_nil ?_
              intro X b hbb hbz hbe
              have he : xv = .pointer (some ⟨b, 0, none⟩) := hbe
              subst he
              clear hbe l0 l1 l2 l3 c0 c1 c2 c3 k0 k1
              obtain ⟨q, hq⟩ : ∃ q, q = mix (at32 vs (laneAt i 0)) (at32 vs (laneAt i 1)) (at32 vs (laneAt i 2)) (at32 vs (laneAt i 3)) (at32 ms (schedAt r (2 * i))) (at32 ms (schedAt r (2 * i + 1))) := ⟨_, rfl⟩
              rw [← hq]
              have Hq := Lib.hid hq
              clear hq
              have hXl : X.v.heap[w2.heap.size]? = some (.cells #[.int .i64 (laneAt i 0), .int .i64 (laneAt i 1), .int .i64 (laneAt i 2), .int .i64 (laneAt i 3)] 96 (0, 0)) := (X.heap _ (lt_of_block hl)).trans hl
              have hXc : CB w w.heap.size (w.heap.size + 1) (w.heap.size + 1 + 1) (w.heap.size + 1 + 1 + 1) hs ms vs X.v :=
                ⟨(X.heap _ (lt_of_block hcb'.h)).trans hcb'.h, (X.heap _ (lt_of_block hcb'.m)).trans hcb'.m, (X.heap _ (lt_of_block hcb'.r)).trans hcb'.r, (X.heap _ (lt_of_block hcb'.v)).trans hcb'.v, below_then hcb'.b hcb'.b.size (w2 := X.v) (below_undrew X.below)⟩
              have hbv := lt_of_block hcb'.v
              generalize X.v = V at hbz hXl hXc ⊢
              clear hcb hcb' hl
              have z0 : V.cell? ⟨b, 0, none⟩ = some (.int .u32 0) := by rw [cell_of hbz]; rfl
              have z1 : V.cell? ⟨b, 1, none⟩ = some (.int .u32 0) := by rw [cell_of hbz]; rfl
              have z2 : V.cell? ⟨b, 2, none⟩ = some (.int .u32 0) := by rw [cell_of hbz]; rfl
              have z3 : V.cell? ⟨b, 3, none⟩ = some (.int .u32 0) := by rw [cell_of hbz]; rfl
              have y0 : V.frozen? ⟨b, 0, none⟩ = false := frozen_of hbz _
              have y1 : V.frozen? ⟨b, 1, none⟩ = false := frozen_of hbz _
              have y2 : V.frozen? ⟨b, 2, none⟩ = false := frozen_of hbz _
              have y3 : V.frozen? ⟨b, 3, none⟩ = false := frozen_of hbz _
              have l0 : V.cell? ⟨w2.heap.size, 0, none⟩ = some (.int .i64 (laneAt i 0)) := by rw [cell_of hXl]; rfl
              have l1 : V.cell? ⟨w2.heap.size, 1, none⟩ = some (.int .i64 (laneAt i 1)) := by rw [cell_of hXl]; rfl
              have l2 : V.cell? ⟨w2.heap.size, 2, none⟩ = some (.int .i64 (laneAt i 2)) := by rw [cell_of hXl]; rfl
              have l3 : V.cell? ⟨w2.heap.size, 3, none⟩ = some (.int .i64 (laneAt i 3)) := by rw [cell_of hXl]; rfl
              have Hbz := Lib.hid hbz
              have HXl := Lib.hid hXl
              have HXc := Lib.hid hXc
              clear hbz hXl hXc
              have hne : b ≠ w2.heap.size := by omega
              go_wp2
              refine wp_gen (fun W => CB w w.heap.size (w.heap.size + 1) (w.heap.size + 1 + 1) (w.heap.size + 1 + 1 + 1) hs ms vs W ∧ W.heap[b]? = some (.cells #[.int .u32 (n32 q.a), .int .u32 (n32 q.b), .int .u32 (n32 q.c), .int .u32 (n32 q.d)] 98 (0, 0))) ?_ ?_
              · refine ⟨⟨heap_set_other (heap_set_other (heap_set_other (heap_set_other HXc.out.h (by simp <;> omega) _) (by simp <;> omega) _) (by simp <;> omega) _) (by simp <;> omega) _,
                  heap_set_other (heap_set_other (heap_set_other (heap_set_other HXc.out.m (by simp <;> omega) _) (by simp <;> omega) _) (by simp <;> omega) _) (by simp <;> omega) _,
                  heap_set_other (heap_set_other (heap_set_other (heap_set_other HXc.out.r (by simp <;> omega) _) (by simp <;> omega) _) (by simp <;> omega) _) (by simp <;> omega) _,
                  heap_set_other (heap_set_other (heap_set_other (heap_set_other HXc.out.v (by simp <;> omega) _) (by simp <;> omega) _) (by simp <;> omega) _) (by simp <;> omega) _, ?_⟩, heap_set (heap_set (heap_set (heap_set Hbz.out _ _) _ _) _ _) _ _⟩
                exact (((HXc.out.b.setCell (by simp <;> omega) _).setCell (by simp <;> omega) _).setCell (by simp <;> omega) _).setCell (by simp <;> omega) _
              clear z0 z1 z2 z3 y0 y1 y2 y3 l0 l1 l2 l3 Hbz HXl HXc V
              rintro V ⟨hcb3, hb3⟩
              go_loopw [88] (fun k wr => ∃ j : Nat, j ≤ 4 ∧ k = .int .i64 j ∧ CB w w.heap.size (w.heap.size + 1) (w.heap.size + 1 + 1) (w.heap.size + 1 + 1 + 1) hs ms (setN vs i q j) wr ∧ wr.heap[b]? = some (.cells #[.int .u32 (n32 q.a), .int .u32 (n32 q.b), .int .u32 (n32 q.c), .int .u32 (n32 q.d)] 98 (0, 0))) (fun k _ => 4 - (intOf k).toNat)
              case atStart => exact ⟨0, by omega, rfl, hcb3, hb3⟩
              case round =>
                obtain ⟨j, hj, rfl, hcb4, hb4⟩ := hrel
                by_cases hlj : j < 4
                · have hix := fun w => run_index_one (P := Try.prog) Try.underlying96 (fun w => by kernel_rfl) (by kernel_rfl) j hlj (.int .i64 (laneAt i j)) (lane4 i j hlj) w
                  have hcw : wr.cell? ⟨b, j, none⟩ = some (.int .u32 (n32 (q.at j))) := by rw [cell_of hb4]; exact quad4 q j hlj
                  have hlj2 := laneAt_lt i j
                  have hlj3 : ((laneAt i j : Nat) : Int) < 16 := by omega
                  have hcv := cell_u32 hcb4.v (laneAt i j) (by rw [length_setN]; omega)
                  have hfv : wr.frozen? ⟨w.heap.size + 1 + 1 + 1, laneAt i j, none⟩ = false := frozen_of hcb4.v _
                  have Hcb4 := Lib.hid hcb4
                  have Hb4 := Lib.hid hb4
                  clear hcb4 hb4
                  go_wp2
                  go_roundw
                  case rel =>
                    refine ⟨j + 1, by omega, by go_num, ⟨heap_set_other Hcb4.out.h (by simp <;> omega) _, heap_set_other Hcb4.out.m (by simp <;> omega) _, heap_set_other Hcb4.out.r (by simp <;> omega) _, ?_, Hcb4.out.b.setCell (by simp <;> omega) _⟩, heap_set_other Hb4.out (by simp <;> omega) _⟩
                    have h1 := heap_set Hcb4.out.v (laneAt i j) (.int .u32 (n32 (q.at j)))
                    rw [u32s_set] at h1
                    exact h1
                  case measure => simp [intOf]; omega
                · obtain rfl : j = 4 := by omega
                  have Hcb4 := Lib.hid hcb4
                  clear hcb4 hb4
                  go_wp2
                  go_roundw
                  case rel =>
                    refine ⟨i + 1, by omega, by go_num, ?_⟩
                    have h1 := Hcb4.out
                    rw [setN_four, Hq.out, Hvs.out] at h1
                    exact h1
                  case measure => simp [intOf]; omega
            · obtain rfl : i = 8 := by omega
              have Hcb := Lib.hid hcb
              clear hcb
              go_wp2
              go_roundw
              case rel => exact ⟨r + 1, by omega, by go_num, Hcb.out⟩
              case measure => simp [intOf]; omega
        · obtain ⟨vs, hvs⟩ : ∃ vs, vs = laps ms (v0 hs t false) r := ⟨_, rfl⟩
          have Hr : Hid (r = 10) := Lib.hid (by omega)
          rw [← hvs] at hcb
          have Hvs := Lib.hid hvs
          have Hcb := Lib.hid hcb
          clear hcb hvs
          go_wp2
          go_loopw [100] (fun k wr => ∃ j : Nat, j ≤ 8 ∧ k = .int .i64 j ∧ CB w w.heap.size (w.heap.size + 1) (w.heap.size + 1 + 1) (w.heap.size + 1 + 1 + 1) (finN hs vs j) ms vs wr) (fun k _ => 8 - (intOf k).toNat)
          case atStart => exact ⟨0, by omega, rfl, Hcb.out⟩
          case round =>
            obtain ⟨j, hj, rfl, hcb4⟩ := hrel
            by_cases hlj : j < 8
            · have hvl : vs.length = 16 := by rw [Hvs.out, length_laps, Hhs.out]; rfl
              have hhl : (finN hs vs j).length = 8 := by rw [length_finN, Hhs.out]; rfl
              have k0 : ∀ x : Ext wr.drew, x.v.cell? ⟨w.heap.size, j, none⟩ = some (.int .u32 (n32 (at32 (finN hs vs j) j))) := fun x => (x.cell _ _ (lt_of_block hcb4.h)).trans (cell_u32 hcb4.h j (by omega))
              have k1 : ∀ x : Ext wr.drew, x.v.cell? ⟨w.heap.size + 1 + 1 + 1, j, none⟩ = some (.int .u32 (n32 (at32 vs j))) := fun x => (x.cell _ _ (lt_of_block hcb4.v)).trans (cell_u32 hcb4.v j (by omega))
              have k2 : ∀ x : Ext wr.drew, x.v.cell? ⟨w.heap.size + 1 + 1 + 1, j + 8, none⟩ = some (.int .u32 (n32 (at32 vs (j + 8)))) := fun x => (x.cell _ _ (lt_of_block hcb4.v)).trans (cell_u32 hcb4.v (j + 8) (by omega))
              have b0 : (j : Int) < 8 := by omega
              have b1 : (j : Int) < 16 := by omega
              have b2 : (j : Int) + 8 < 16 := by omega
              have b3 : IntKind.i64.wrap ((j : Int) + 8) = (j : Int) + 8 := IntWalk.i64_in _ (by omega)
              have b4 : ((j : Int) + 8).toNat = j + 8 := by omega
              have b5 : 0 ≤ (j : Int) + 8 := by omega
              have Hcb4 := Lib.hid hcb4
              clear hcb4
              go_wp2
              refine wp_region_ext 13 (by kernel_rfl) (by kernel_rfl) ?_
              iterate 13 (refine wpX_step (fun K hK => ?_); go_simp; refine hK _ ?_; clear hK K)
              refine wpX_nil ?_
              intro X
              have hx := Hcb4.out
              have hXc : CB w w.heap.size (w.heap.size + 1) (w.heap.size + 1 + 1) (w.heap.size + 1 + 1 + 1) (finN hs vs j) ms vs X.v :=
                ⟨(X.heap _ (lt_of_block hx.h)).trans hx.h, (X.heap _ (lt_of_block hx.m)).trans hx.m, (X.heap _ (lt_of_block hx.r)).trans hx.r, (X.heap _ (lt_of_block hx.v)).trans hx.v, below_then hx.b hx.b.size (w2 := X.v) (below_undrew X.below)⟩
              clear k0 k1 k2 hx Hcb4
              generalize X.v = V at hXc ⊢
              have k0 := cell_u32 hXc.h j (by omega)
              have f0 : V.frozen? ⟨w.heap.size, j, none⟩ = false := frozen_of hXc.h _
              have HXc := Lib.hid hXc
              clear hXc
              go_wp2
              go_roundw
              case rel =>
                refine ⟨j + 1, by omega, by go_num, ⟨?_, heap_set_other HXc.out.m (by simp <;> omega) _, heap_set_other HXc.out.r (by simp <;> omega) _, heap_set_other HXc.out.v (by simp <;> omega) _, HXc.out.b.setCell (by simp <;> omega) _⟩⟩
                have h1 := heap_set HXc.out.h j (.int .u32 (n32 (at32 (finN hs vs j) j ^^^ (at32 vs j ^^^ at32 vs (j + 8)))))
                rw [u32s_set] at h1
                exact h1
              case measure => simp [intOf]; omega
            · obtain rfl : j = 8 := by omega
              have hfin : finN hs vs 8 = compress hs ms t false := by rw [Hhs.out, finN_eight]; unfold compress; rw [← Hhs.out, ← Hr.out, ← Hvs.out]
              rw [hfin] at hcb4
              obtain ⟨e0, e1, e2, e3, e4, e5, e6, e7, hes⟩ := list8 (length_compress hs ms t false)
              rw [hes] at hcb4
              have HR2 : R = .agg #[.int .u32 (n32 e0), .int .u32 (n32 e1), .int .u32 (n32 e2), .int .u32 (n32 e3), .int .u32 (n32 e4), .int .u32 (n32 e5), .int .u32 (n32 e6), .int .u32 (n32 e7)] := by
                rw [← HR.out, ← Hhs.out, ← Hms.out, hes]
                rfl
              have hh8 : wr.heap[w.heap.size]? = some (.cells #[.int .u32 (n32 e0), .int .u32 (n32 e1), .int .u32 (n32 e2), .int .u32 (n32 e3), .int .u32 (n32 e4), .int .u32 (n32 e5), .int .u32 (n32 e6), .int .u32 (n32 e7)] 64 (0, 0)) := hcb4.h
              have hr8 := hcb4.r
              have hone : (#[.int .u32 (n32 e0), .int .u32 (n32 e1), .int .u32 (n32 e2), .int .u32 (n32 e3), .int .u32 (n32 e4), .int .u32 (n32 e5), .int .u32 (n32 e6), .int .u32 (n32 e7)] : Array Value).all (·.oneCell') = true := by simp [Value.oneCell']
              have HBw := Lib.hid hcb4.b
              clear hcb4 hfin hes
              go_wp2_with (first | (refine wpList_load_row rfl 64 _ rfl w.heap.size rfl 64 _ _ _ hh8 Try.underlying64 rfl (by kernel_rfl) ?_) | (refine wpList_store_row rfl 64 _ _ rfl (w.heap.size + 1 + 1) #[.int .u32 (n32 e0), .int .u32 (n32 e1), .int .u32 (n32 e2), .int .u32 (n32 e3), .int .u32 (n32 e4), .int .u32 (n32 e5), .int .u32 (n32 e6), .int .u32 (n32 e7)] rfl rfl 64 _ hr8 (by kernel_rfl) rfl hone ?_))
              (try simp only [Exit.inBlock, Exit.then])
              refine bodyPost_ret (results_cell_row rfl _ _ (w.heap.size + 1 + 1) 64 #[.int .u32 (n32 e0), .int .u32 (n32 e1), .int .u32 (n32 e2), .int .u32 (n32 e3), .int .u32 (n32 e4), .int .u32 (n32 e5), .int .u32 (n32 e6), .int .u32 (n32 e7)] (0, 0) _ rfl (setRow_heap _ _ _ _ _ _ hr8) Try.underlying64 rfl (by kernel_rfl)) rfl ?_
              exact ⟨by rw [HR2], below_setRow HBw.out (by omega) _⟩
  · go_wp2
    refine wp_gen (CB w w.heap.size (w.heap.size + 1) (w.heap.size + 1 + 1) (w.heap.size + 1 + 1 + 1) [h0, h1, h2, h3, h4, h5, h6, h7] [m0, m1, m2, m3, m4, m5, m6, m7, m8, m9, m10, m11, m12, m13, m14, m15] (v0 [h0, h1, h2, h3, h4, h5, h6, h7] t true)) ?_ ?_
    · exact ⟨heap_set_other (heap_set_other (heap_set_other H0.out (by simp <;> omega) _) (by simp <;> omega) _) (by simp <;> omega) _, heap_set_other (heap_set_other (heap_set_other H1.out (by simp <;> omega) _) (by simp <;> omega) _) (by simp <;> omega) _, heap_set_other (heap_set_other (heap_set_other H2.out (by simp <;> omega) _) (by simp <;> omega) _) (by simp <;> omega) _,
        heap_set (heap_set (heap_set H3.out _ _) _ _) _ _, ((HB.out.setCell (by simp; omega) _).setCell (by simp; omega) _).setCell (by simp; omega) _⟩
    · intro W4 hCB
      clear c1 c2 v12 v13 v14 f12 f13 f14 H0 H1 H2 H3 HB
      obtain ⟨hs, hhs⟩ : ∃ hs, hs = [h0, h1, h2, h3, h4, h5, h6, h7] := ⟨_, rfl⟩
      obtain ⟨ms, hms⟩ : ∃ ms, ms = [m0, m1, m2, m3, m4, m5, m6, m7, m8, m9, m10, m11, m12, m13, m14, m15] := ⟨_, rfl⟩
      rw [← hhs, ← hms] at hCB
      have Hhs := Lib.hid hhs
      have Hms := Lib.hid hms
      clear hhs hms
      go_loopw [44] (fun k wr => ∃ r : Nat, r ≤ 10 ∧ k = .int .i64 r ∧ CB w w.heap.size (w.heap.size + 1) (w.heap.size + 1 + 1) (w.heap.size + 1 + 1 + 1) hs ms (laps ms (v0 hs t true) r) wr) (fun k _ => 10 - (intOf k).toNat)
      case atStart => exact ⟨0, by omega, rfl, hCB⟩
      case round =>
        obtain ⟨r, hr, rfl, hcb⟩ := hrel
        by_cases hlt : r < 10
        · go_wp2_with (go_at_call 71; (with_reducible refine (schedule_any r _ hlt).mono ?_); rintro e w' ⟨rfl, rfl⟩)
          go_loopw [49] (fun k wr => ∃ i : Nat, i ≤ 8 ∧ k = .int .i64 i ∧ CB w w.heap.size (w.heap.size + 1) (w.heap.size + 1 + 1) (w.heap.size + 1 + 1 + 1) hs ms (lap ms (laps ms (v0 hs t true) r) r i) wr) (fun k _ => 8 - (intOf k).toNat)
          case atStart => exact ⟨0, by omega, rfl, hcb⟩
          case round =>
            obtain ⟨i, hi, rfl, hcb⟩ := hrel
            by_cases hli : i < 8
            · go_wp2_with (go_at_call 72; (with_reducible refine (lane_lit i _ hli).mono ?_); rintro e w2 ⟨rfl, hb2⟩)
              obtain ⟨vs, hvs⟩ : ∃ vs, vs = lap ms (laps ms (v0 hs t true) r) r i := ⟨_, rfl⟩
              rw [← hvs] at hcb
              have Hvs := Lib.hid hvs
              clear hvs
              refine wp_gen (fun W => CB w w.heap.size (w.heap.size + 1) (w.heap.size + 1 + 1) (w.heap.size + 1 + 1 + 1) hs ms vs W ∧ W.heap[w2.heap.size]? = some (.cells #[.int .i64 (laneAt i 0), .int .i64 (laneAt i 1), .int .i64 (laneAt i 2), .int .i64 (laneAt i 3)] 96 (0, 0))) ?_ ?_
              · refine ⟨⟨heap_old (heap_below hcb.h hb2 (lt_of_block hcb.h)) _, heap_old (heap_below hcb.m hb2 (lt_of_block hcb.m)) _, heap_old (heap_below hcb.r hb2 (lt_of_block hcb.r)) _, heap_old (heap_below hcb.v hb2 (lt_of_block hcb.v)) _, ?_⟩, heap_new _ _⟩
                exact (below_then hcb.b hcb.b.size hb2).alloc (by have := hb2.size; have := hcb.b.size; omega) _
              rintro W ⟨hcb', hl⟩
              have hz2 : w.heap.size + 4 ≤ w2.heap.size := by have := lt_of_block hcb.v; have := hb2.size; omega
              have hlt0 := laneAt_lt i 0
              have hlt1 := laneAt_lt i 1
              have hlt2 := laneAt_lt i 2
              have hlt3 := laneAt_lt i 3
              have hmt0 := schedAt_lt r (2 * i)
              have hmt1 := schedAt_lt r (2 * i + 1)
              obtain ⟨hd0, hd1, hd2⟩ := sched_at r (2 * i) hlt (by omega)
              obtain ⟨he0, he1, he2⟩ := sched_at r (2 * i + 1) hlt (by omega)
              have l0 : ∀ x : Ext W.drew, x.v.cell? ⟨w2.heap.size, 0, none⟩ = some (.int .i64 (laneAt i 0)) := fun x => (x.cell _ _ (lt_of_block hl)).trans (by show W.cell? _ = _; rw [cell_of hl]; rfl)
              have l1 : ∀ x : Ext W.drew, x.v.cell? ⟨w2.heap.size, 1, none⟩ = some (.int .i64 (laneAt i 1)) := fun x => (x.cell _ _ (lt_of_block hl)).trans (by show W.cell? _ = _; rw [cell_of hl]; rfl)
              have l2 : ∀ x : Ext W.drew, x.v.cell? ⟨w2.heap.size, 2, none⟩ = some (.int .i64 (laneAt i 2)) := fun x => (x.cell _ _ (lt_of_block hl)).trans (by show W.cell? _ = _; rw [cell_of hl]; rfl)
              have l3 : ∀ x : Ext W.drew, x.v.cell? ⟨w2.heap.size, 3, none⟩ = some (.int .i64 (laneAt i 3)) := fun x => (x.cell _ _ (lt_of_block hl)).trans (by show W.cell? _ = _; rw [cell_of hl]; rfl)
              have hvl : vs.length = 16 := by rw [Hvs.out, length_lap, length_laps, Hhs.out]; rfl
              have hml : ms.length = 16 := by rw [Hms.out]; rfl
              have c0 : ∀ x : Ext W.drew, x.v.cell? ⟨w.heap.size + 1 + 1 + 1, laneAt i 0, none⟩ = some (.int .u32 (n32 (at32 vs (laneAt i 0)))) := fun x => (x.cell _ _ (lt_of_block hcb'.v)).trans (cell_u32 hcb'.v (laneAt i 0) (by omega))
              have c1 : ∀ x : Ext W.drew, x.v.cell? ⟨w.heap.size + 1 + 1 + 1, laneAt i 1, none⟩ = some (.int .u32 (n32 (at32 vs (laneAt i 1)))) := fun x => (x.cell _ _ (lt_of_block hcb'.v)).trans (cell_u32 hcb'.v (laneAt i 1) (by omega))
              have c2 : ∀ x : Ext W.drew, x.v.cell? ⟨w.heap.size + 1 + 1 + 1, laneAt i 2, none⟩ = some (.int .u32 (n32 (at32 vs (laneAt i 2)))) := fun x => (x.cell _ _ (lt_of_block hcb'.v)).trans (cell_u32 hcb'.v (laneAt i 2) (by omega))
              have c3 : ∀ x : Ext W.drew, x.v.cell? ⟨w.heap.size + 1 + 1 + 1, laneAt i 3, none⟩ = some (.int .u32 (n32 (at32 vs (laneAt i 3)))) := fun x => (x.cell _ _ (lt_of_block hcb'.v)).trans (cell_u32 hcb'.v (laneAt i 3) (by omega))
              have k0 : ∀ x : Ext W.drew, x.v.cell? ⟨w.heap.size + 1, schedAt r (2 * i), none⟩ = some (.int .u32 (n32 (at32 ms (schedAt r (2 * i))))) := fun x => (x.cell _ _ (lt_of_block hcb'.m)).trans (cell_u32 hcb'.m (schedAt r (2 * i)) (by omega))
              have k1 : ∀ x : Ext W.drew, x.v.cell? ⟨w.heap.size + 1, schedAt r (2 * i + 1), none⟩ = some (.int .u32 (n32 (at32 ms (schedAt r (2 * i + 1))))) := fun x => (x.cell _ _ (lt_of_block hcb'.m)).trans (cell_u32 hcb'.m (schedAt r (2 * i + 1)) (by omega))
              have hI0 : ((laneAt i 0 : Nat) : Int) < 16 := by omega
              have hI1 : ((laneAt i 1 : Nat) : Int) < 16 := by omega
              have hI2 : ((laneAt i 2 : Nat) : Int) < 16 := by omega
              have hI3 : ((laneAt i 3 : Nat) : Int) < 16 := by omega
              have hJ0 : ((schedAt r (2 * i) : Nat) : Int) < 16 := by omega
              have hJ1 : ((schedAt r (2 * i + 1) : Nat) : Int) < 16 := by omega
              have hw0 : IntKind.i64.wrap (2 * (i : Int)) = 2 * (i : Int) := IntWalk.i64_in _ (by omega)
              have hw1 : IntKind.i64.wrap (2 * (i : Int) + 1) = 2 * (i : Int) + 1 := IntWalk.i64_in _ (by omega)
              have hp0 : 0 ≤ 2 * (i : Int) := by omega
              have hp1 : 0 ≤ 2 * (i : Int) + 1 := by omega
              have hq0 : 2 * (i : Int) < ((schedStr r).size : Int) := by omega
              have hq1 : 2 * (i : Int) + 1 < ((schedStr r).size : Int) := by omega
              have ht0 : (2 * (i : Int)).toNat = 2 * i := by omega
              have ht1 : (2 * (i : Int) + 1).toNat = 2 * i + 1 := by omega
              have hsz := lt_of_block hl
              refine wp_region_alloc 33 15 98 #[.int .u32 0, .int .u32 0, .int .u32 0, .int .u32 0] (by kernel_rfl) (by kernel_rfl) rfl rfl rfl (by kernel_rfl) (by simp) (fun a w => by go_simp) ?_
              iterate 21 (refine wpX_step (fun K hK => ?_); go_simp; refine hK _ ?_; clear hK K)
              refine wpX_step (fun K hK => ?_)
              go_simp
              refine ⟨_, fun x => digit_at r (2 * i) hlt (by omega) hd0 x.v, hK _ ?_⟩
              clear hK K
              iterate 7 (refine wpX_step (fun K hK => ?_); go_simp; refine hK _ ?_; clear hK K)
              refine wpX_step (fun K hK => ?_)
              go_simp
              refine ⟨_, fun x => digit_at r (2 * i + 1) hlt (by omega) he0 x.v, hK _ ?_⟩
              clear hK K
              iterate 2 (refine wpX_step (fun K hK => ?_); go_simp; refine hK _ ?_; clear hK K)
              refine wpX_step (fun K hK => ?_)
              go_simp
              refine ⟨_, fun x => mix_lit _ _ _ _ _ _ x.v, hK _ ?_⟩
              clear hK K
              refine wpX_step (fun K hK => ?_)
              go_simp
              intro xv
              refine hK _ ?_
              clear hK K
              refine wpX_nil ?_
              intro X b hbb hbz hbe
              have he : xv = .pointer (some ⟨b, 0, none⟩) := hbe
              subst he
              clear hbe l0 l1 l2 l3 c0 c1 c2 c3 k0 k1
              obtain ⟨q, hq⟩ : ∃ q, q = mix (at32 vs (laneAt i 0)) (at32 vs (laneAt i 1)) (at32 vs (laneAt i 2)) (at32 vs (laneAt i 3)) (at32 ms (schedAt r (2 * i))) (at32 ms (schedAt r (2 * i + 1))) := ⟨_, rfl⟩
              rw [← hq]
              have Hq := Lib.hid hq
              clear hq
              have hXl : X.v.heap[w2.heap.size]? = some (.cells #[.int .i64 (laneAt i 0), .int .i64 (laneAt i 1), .int .i64 (laneAt i 2), .int .i64 (laneAt i 3)] 96 (0, 0)) := (X.heap _ (lt_of_block hl)).trans hl
              have hXc : CB w w.heap.size (w.heap.size + 1) (w.heap.size + 1 + 1) (w.heap.size + 1 + 1 + 1) hs ms vs X.v :=
                ⟨(X.heap _ (lt_of_block hcb'.h)).trans hcb'.h, (X.heap _ (lt_of_block hcb'.m)).trans hcb'.m, (X.heap _ (lt_of_block hcb'.r)).trans hcb'.r, (X.heap _ (lt_of_block hcb'.v)).trans hcb'.v, below_then hcb'.b hcb'.b.size (w2 := X.v) (below_undrew X.below)⟩
              have hbv := lt_of_block hcb'.v
              generalize X.v = V at hbz hXl hXc ⊢
              clear hcb hcb' hl
              have z0 : V.cell? ⟨b, 0, none⟩ = some (.int .u32 0) := by rw [cell_of hbz]; rfl
              have z1 : V.cell? ⟨b, 1, none⟩ = some (.int .u32 0) := by rw [cell_of hbz]; rfl
              have z2 : V.cell? ⟨b, 2, none⟩ = some (.int .u32 0) := by rw [cell_of hbz]; rfl
              have z3 : V.cell? ⟨b, 3, none⟩ = some (.int .u32 0) := by rw [cell_of hbz]; rfl
              have y0 : V.frozen? ⟨b, 0, none⟩ = false := frozen_of hbz _
              have y1 : V.frozen? ⟨b, 1, none⟩ = false := frozen_of hbz _
              have y2 : V.frozen? ⟨b, 2, none⟩ = false := frozen_of hbz _
              have y3 : V.frozen? ⟨b, 3, none⟩ = false := frozen_of hbz _
              have l0 : V.cell? ⟨w2.heap.size, 0, none⟩ = some (.int .i64 (laneAt i 0)) := by rw [cell_of hXl]; rfl
              have l1 : V.cell? ⟨w2.heap.size, 1, none⟩ = some (.int .i64 (laneAt i 1)) := by rw [cell_of hXl]; rfl
              have l2 : V.cell? ⟨w2.heap.size, 2, none⟩ = some (.int .i64 (laneAt i 2)) := by rw [cell_of hXl]; rfl
              have l3 : V.cell? ⟨w2.heap.size, 3, none⟩ = some (.int .i64 (laneAt i 3)) := by rw [cell_of hXl]; rfl
              have Hbz := Lib.hid hbz
              have HXl := Lib.hid hXl
              have HXc := Lib.hid hXc
              clear hbz hXl hXc
              have hne : b ≠ w2.heap.size := by omega
              go_wp2
              refine wp_gen (fun W => CB w w.heap.size (w.heap.size + 1) (w.heap.size + 1 + 1) (w.heap.size + 1 + 1 + 1) hs ms vs W ∧ W.heap[b]? = some (.cells #[.int .u32 (n32 q.a), .int .u32 (n32 q.b), .int .u32 (n32 q.c), .int .u32 (n32 q.d)] 98 (0, 0))) ?_ ?_
              · refine ⟨⟨heap_set_other (heap_set_other (heap_set_other (heap_set_other HXc.out.h (by simp <;> omega) _) (by simp <;> omega) _) (by simp <;> omega) _) (by simp <;> omega) _,
                  heap_set_other (heap_set_other (heap_set_other (heap_set_other HXc.out.m (by simp <;> omega) _) (by simp <;> omega) _) (by simp <;> omega) _) (by simp <;> omega) _,
                  heap_set_other (heap_set_other (heap_set_other (heap_set_other HXc.out.r (by simp <;> omega) _) (by simp <;> omega) _) (by simp <;> omega) _) (by simp <;> omega) _,
                  heap_set_other (heap_set_other (heap_set_other (heap_set_other HXc.out.v (by simp <;> omega) _) (by simp <;> omega) _) (by simp <;> omega) _) (by simp <;> omega) _, ?_⟩, heap_set (heap_set (heap_set (heap_set Hbz.out _ _) _ _) _ _) _ _⟩
                exact (((HXc.out.b.setCell (by simp <;> omega) _).setCell (by simp <;> omega) _).setCell (by simp <;> omega) _).setCell (by simp <;> omega) _
              clear z0 z1 z2 z3 y0 y1 y2 y3 l0 l1 l2 l3 Hbz HXl HXc V
              rintro V ⟨hcb3, hb3⟩
              go_loopw [88] (fun k wr => ∃ j : Nat, j ≤ 4 ∧ k = .int .i64 j ∧ CB w w.heap.size (w.heap.size + 1) (w.heap.size + 1 + 1) (w.heap.size + 1 + 1 + 1) hs ms (setN vs i q j) wr ∧ wr.heap[b]? = some (.cells #[.int .u32 (n32 q.a), .int .u32 (n32 q.b), .int .u32 (n32 q.c), .int .u32 (n32 q.d)] 98 (0, 0))) (fun k _ => 4 - (intOf k).toNat)
              case atStart => exact ⟨0, by omega, rfl, hcb3, hb3⟩
              case round =>
                obtain ⟨j, hj, rfl, hcb4, hb4⟩ := hrel
                by_cases hlj : j < 4
                · have hix := fun w => run_index_one (P := Try.prog) Try.underlying96 (fun w => by kernel_rfl) (by kernel_rfl) j hlj (.int .i64 (laneAt i j)) (lane4 i j hlj) w
                  have hcw : wr.cell? ⟨b, j, none⟩ = some (.int .u32 (n32 (q.at j))) := by rw [cell_of hb4]; exact quad4 q j hlj
                  have hlj2 := laneAt_lt i j
                  have hlj3 : ((laneAt i j : Nat) : Int) < 16 := by omega
                  have hcv := cell_u32 hcb4.v (laneAt i j) (by rw [length_setN]; omega)
                  have hfv : wr.frozen? ⟨w.heap.size + 1 + 1 + 1, laneAt i j, none⟩ = false := frozen_of hcb4.v _
                  have Hcb4 := Lib.hid hcb4
                  have Hb4 := Lib.hid hb4
                  clear hcb4 hb4
                  go_wp2
                  go_roundw
                  case rel =>
                    refine ⟨j + 1, by omega, by go_num, ⟨heap_set_other Hcb4.out.h (by simp <;> omega) _, heap_set_other Hcb4.out.m (by simp <;> omega) _, heap_set_other Hcb4.out.r (by simp <;> omega) _, ?_, Hcb4.out.b.setCell (by simp <;> omega) _⟩, heap_set_other Hb4.out (by simp <;> omega) _⟩
                    have h1 := heap_set Hcb4.out.v (laneAt i j) (.int .u32 (n32 (q.at j)))
                    rw [u32s_set] at h1
                    exact h1
                  case measure => simp [intOf]; omega
                · obtain rfl : j = 4 := by omega
                  have Hcb4 := Lib.hid hcb4
                  clear hcb4 hb4
                  go_wp2
                  go_roundw
                  case rel =>
                    refine ⟨i + 1, by omega, by go_num, ?_⟩
                    have h1 := Hcb4.out
                    rw [setN_four, Hq.out, Hvs.out] at h1
                    exact h1
                  case measure => simp [intOf]; omega
            · obtain rfl : i = 8 := by omega
              have Hcb := Lib.hid hcb
              clear hcb
              go_wp2
              go_roundw
              case rel => exact ⟨r + 1, by omega, by go_num, Hcb.out⟩
              case measure => simp [intOf]; omega
        · obtain ⟨vs, hvs⟩ : ∃ vs, vs = laps ms (v0 hs t true) r := ⟨_, rfl⟩
          have Hr : Hid (r = 10) := Lib.hid (by omega)
          rw [← hvs] at hcb
          have Hvs := Lib.hid hvs
          have Hcb := Lib.hid hcb
          clear hcb hvs
          go_wp2
          go_loopw [100] (fun k wr => ∃ j : Nat, j ≤ 8 ∧ k = .int .i64 j ∧ CB w w.heap.size (w.heap.size + 1) (w.heap.size + 1 + 1) (w.heap.size + 1 + 1 + 1) (finN hs vs j) ms vs wr) (fun k _ => 8 - (intOf k).toNat)
          case atStart => exact ⟨0, by omega, rfl, Hcb.out⟩
          case round =>
            obtain ⟨j, hj, rfl, hcb4⟩ := hrel
            by_cases hlj : j < 8
            · have hvl : vs.length = 16 := by rw [Hvs.out, length_laps, Hhs.out]; rfl
              have hhl : (finN hs vs j).length = 8 := by rw [length_finN, Hhs.out]; rfl
              have k0 : ∀ x : Ext wr.drew, x.v.cell? ⟨w.heap.size, j, none⟩ = some (.int .u32 (n32 (at32 (finN hs vs j) j))) := fun x => (x.cell _ _ (lt_of_block hcb4.h)).trans (cell_u32 hcb4.h j (by omega))
              have k1 : ∀ x : Ext wr.drew, x.v.cell? ⟨w.heap.size + 1 + 1 + 1, j, none⟩ = some (.int .u32 (n32 (at32 vs j))) := fun x => (x.cell _ _ (lt_of_block hcb4.v)).trans (cell_u32 hcb4.v j (by omega))
              have k2 : ∀ x : Ext wr.drew, x.v.cell? ⟨w.heap.size + 1 + 1 + 1, j + 8, none⟩ = some (.int .u32 (n32 (at32 vs (j + 8)))) := fun x => (x.cell _ _ (lt_of_block hcb4.v)).trans (cell_u32 hcb4.v (j + 8) (by omega))
              have b0 : (j : Int) < 8 := by omega
              have b1 : (j : Int) < 16 := by omega
              have b2 : (j : Int) + 8 < 16 := by omega
              have b3 : IntKind.i64.wrap ((j : Int) + 8) = (j : Int) + 8 := IntWalk.i64_in _ (by omega)
              have b4 : ((j : Int) + 8).toNat = j + 8 := by omega
              have b5 : 0 ≤ (j : Int) + 8 := by omega
              have Hcb4 := Lib.hid hcb4
              clear hcb4
              go_wp2
              refine wp_region_ext 13 (by kernel_rfl) (by kernel_rfl) ?_
              iterate 13 (refine wpX_step (fun K hK => ?_); go_simp; refine hK _ ?_; clear hK K)
              refine wpX_nil ?_
              intro X
              have hx := Hcb4.out
              have hXc : CB w w.heap.size (w.heap.size + 1) (w.heap.size + 1 + 1) (w.heap.size + 1 + 1 + 1) (finN hs vs j) ms vs X.v :=
                ⟨(X.heap _ (lt_of_block hx.h)).trans hx.h, (X.heap _ (lt_of_block hx.m)).trans hx.m, (X.heap _ (lt_of_block hx.r)).trans hx.r, (X.heap _ (lt_of_block hx.v)).trans hx.v, below_then hx.b hx.b.size (w2 := X.v) (below_undrew X.below)⟩
              clear k0 k1 k2 hx Hcb4
              generalize X.v = V at hXc ⊢
              have k0 := cell_u32 hXc.h j (by omega)
              have f0 : V.frozen? ⟨w.heap.size, j, none⟩ = false := frozen_of hXc.h _
              have HXc := Lib.hid hXc
              clear hXc
              go_wp2
              go_roundw
              case rel =>
                refine ⟨j + 1, by omega, by go_num, ⟨?_, heap_set_other HXc.out.m (by simp <;> omega) _, heap_set_other HXc.out.r (by simp <;> omega) _, heap_set_other HXc.out.v (by simp <;> omega) _, HXc.out.b.setCell (by simp <;> omega) _⟩⟩
                have h1 := heap_set HXc.out.h j (.int .u32 (n32 (at32 (finN hs vs j) j ^^^ (at32 vs j ^^^ at32 vs (j + 8)))))
                rw [u32s_set] at h1
                exact h1
              case measure => simp [intOf]; omega
            · obtain rfl : j = 8 := by omega
              have hfin : finN hs vs 8 = compress hs ms t true := by rw [Hhs.out, finN_eight]; unfold compress; rw [← Hhs.out, ← Hr.out, ← Hvs.out]
              rw [hfin] at hcb4
              obtain ⟨e0, e1, e2, e3, e4, e5, e6, e7, hes⟩ := list8 (length_compress hs ms t true)
              rw [hes] at hcb4
              have HR2 : R = .agg #[.int .u32 (n32 e0), .int .u32 (n32 e1), .int .u32 (n32 e2), .int .u32 (n32 e3), .int .u32 (n32 e4), .int .u32 (n32 e5), .int .u32 (n32 e6), .int .u32 (n32 e7)] := by
                rw [← HR.out, ← Hhs.out, ← Hms.out, hes]
                rfl
              have hh8 : wr.heap[w.heap.size]? = some (.cells #[.int .u32 (n32 e0), .int .u32 (n32 e1), .int .u32 (n32 e2), .int .u32 (n32 e3), .int .u32 (n32 e4), .int .u32 (n32 e5), .int .u32 (n32 e6), .int .u32 (n32 e7)] 64 (0, 0)) := hcb4.h
              have hr8 := hcb4.r
              have hone : (#[.int .u32 (n32 e0), .int .u32 (n32 e1), .int .u32 (n32 e2), .int .u32 (n32 e3), .int .u32 (n32 e4), .int .u32 (n32 e5), .int .u32 (n32 e6), .int .u32 (n32 e7)] : Array Value).all (·.oneCell') = true := by simp [Value.oneCell']
              have HBw := Lib.hid hcb4.b
              clear hcb4 hfin hes
              go_wp2_with (first | (refine wpList_load_row rfl 64 _ rfl w.heap.size rfl 64 _ _ _ hh8 Try.underlying64 rfl (by kernel_rfl) ?_) | (refine wpList_store_row rfl 64 _ _ rfl (w.heap.size + 1 + 1) #[.int .u32 (n32 e0), .int .u32 (n32 e1), .int .u32 (n32 e2), .int .u32 (n32 e3), .int .u32 (n32 e4), .int .u32 (n32 e5), .int .u32 (n32 e6), .int .u32 (n32 e7)] rfl rfl 64 _ hr8 (by kernel_rfl) rfl hone ?_))
              (try simp only [Exit.inBlock, Exit.then])
              refine bodyPost_ret (results_cell_row rfl _ _ (w.heap.size + 1 + 1) 64 #[.int .u32 (n32 e0), .int .u32 (n32 e1), .int .u32 (n32 e2), .int .u32 (n32 e3), .int .u32 (n32 e4), .int .u32 (n32 e5), .int .u32 (n32 e6), .int .u32 (n32 e7)] (0, 0) _ rfl (setRow_heap _ _ _ _ _ _ hr8) Try.underlying64 rfl (by kernel_rfl)) rfl ?_
              exact ⟨by rw [HR2], below_setRow HBw.out (by omega) _⟩
end

/-! ### Words -/
section
open Go.RowKit

def n8 (x : UInt8) : Int := x.toNat
theorem n8_nonneg (x : UInt8) : 0 ≤ n8 x := Int.natCast_nonneg _
theorem n8_lt (x : UInt8) : n8 x < 256 := by
  have := x.toNat_lt
  unfold n8
  omega
/-- A byte of a list, closed to simp. -/
def at8 (l : List UInt8) (i : Nat) : UInt8 := l.getD i 0

/-- The bytes bs lie at a. -/
def BytesAt (w : World) (a : Option Addr) (bs : List UInt8) : Prop := ∀ j, j < bs.length → ∃ b off, a = some ⟨b, off, none⟩ ∧ w.cell? ⟨b, off + j, none⟩ = some (.int .u8 (n8 (at8 bs j)))

theorem lift8_eq (c : UInt8) (k : Nat) : n8 c * 2 ^ (8 * (k % 4)) % 4294967296 = n32 (lift8 c k) := by
  unfold n8 n32 lift8
  rw [UInt32.toNat_ofNat']
  have : ((c.toNat : Int) * 2 ^ (8 * (k % 4))) = ((c.toNat * 2 ^ (8 * (k % 4)) : Nat) : Int) := by simp
  rw [this]
  omega

structure WB (w0 : World) (br bm : Nat) (v : List UInt32) (w : World) : Prop where
  r : w.heap[br]? = some (.cells [Value.int .u32 0, Value.int .u32 0, Value.int .u32 0, Value.int .u32 0, Value.int .u32 0, Value.int .u32 0, Value.int .u32 0, Value.int .u32 0, Value.int .u32 0, Value.int .u32 0, Value.int .u32 0, Value.int .u32 0, Value.int .u32 0, Value.int .u32 0, Value.int .u32 0, Value.int .u32 0].toArray 80 (0, 0))
  m : w.heap[bm]? = some (.cells (u32s v).toArray 80 (0, 0))
  b : Below w0.heap.size w0 w

theorem u32s_modify (v : List UInt32) (j : Nat) (x : UInt32) (hj : j < v.length) : (u32s v).toArray.setIfInBounds j (.int .u32 (n32 (at32 v j ||| x))) = (u32s (v.modify j (· ||| x))).toArray := by
  have e : v.modify j (· ||| x) = v.set j (at32 v j ||| x) := by
    rw [List.modify_eq_set]
    simp [at32, List.getD_eq_getElem?_getD, List.getElem?_eq_getElem hj]
  rw [e, u32s_set]

attribute [local go_sem] u32_or_n

set_option maxRecDepth 100000 in
set_option maxHeartbeats 1000000 in
theorem words_any (a : Option Addr) (cap : Nat) (bs : List UInt8) (w : World) (hn : bs.length ≤ 64) (hb : BytesAt w a bs) :
    Calls Try.prog 63 #[.slice a bs.length cap] w (Ret (uAgg (wordsOf bs)) w) := by
  have Hb := Lib.hid hb
  clear hb
  go_enter Try.func63, Try.ntmps63
  go_wp2
  refine wp_gen (WB w w.heap.size (w.heap.size + 1) (wordsN bs 0)) ?_ ?_
  · exact ⟨heap_old (heap_new _ _) _, by have h := heap_new (w.alloc (.cells [Value.int .u32 0, Value.int .u32 0, Value.int .u32 0, Value.int .u32 0, Value.int .u32 0, Value.int .u32 0, Value.int .u32 0, Value.int .u32 0, Value.int .u32 0, Value.int .u32 0, Value.int .u32 0, Value.int .u32 0, Value.int .u32 0, Value.int .u32 0, Value.int .u32 0, Value.int .u32 0].toArray 80)) (.cells [Value.int .u32 0, Value.int .u32 0, Value.int .u32 0, Value.int .u32 0, Value.int .u32 0, Value.int .u32 0, Value.int .u32 0, Value.int .u32 0, Value.int .u32 0, Value.int .u32 0, Value.int .u32 0, Value.int .u32 0, Value.int .u32 0, Value.int .u32 0, Value.int .u32 0, Value.int .u32 0].toArray 80); rw [World.size_alloc] at h; exact h, ((Below.refl _ _).alloc (by simp) _).alloc (by simp) _⟩
  intro W hW
  go_loopw [8] (fun i wr => ∃ k : Nat, k ≤ bs.length ∧ i = .int .i64 k ∧ WB w w.heap.size (w.heap.size + 1) (wordsN bs k) wr) (fun i _ => bs.length - (intOf i).toNat)
  case atStart => exact ⟨0, by omega, rfl, hW⟩
  case round =>
    obtain ⟨k, hk, rfl, hwb⟩ := hrel
    by_cases hlt : k < bs.length
    · obtain ⟨b, off, rfl, hc⟩ := Hb.out k hlt
      have hblk := World.block_lt_of_cell? w _ hc
      have hc1 : wr.cell? ⟨b, off + k, none⟩ = some (.int .u8 (n8 (at8 bs k))) := (hwb.b.cell (p := ⟨b, off + k, none⟩) hblk).trans hc
      have hkI : (k : Int) < (bs.length : Int) := by omega
      have hl16 := length_wordsN bs k
      have c0 : ∀ x : Ext wr.drew, x.v.cell? ⟨w.heap.size + 1, k / 4, none⟩ = some (.int .u32 (n32 (at32 (wordsN bs k) (k / 4)))) := fun x => (x.cell _ _ (lt_of_block hwb.m)).trans (cell_u32 hwb.m (k / 4) (by omega))
      have e0 : IntKind.i64.wrap ((k : Int) / 4) = (k : Int) / 4 := IntWalk.i64_in _ (by omega)
      have e1 : 0 ≤ (k : Int) / 4 := by omega
      have e2 : (k : Int) / 4 < 16 := by omega
      have e3 : ((k : Int) / 4).toNat = k / 4 := by omega
      have e4 : IntKind.i64.wrap (8 * ((k : Int) % 4)) = 8 * ((k : Int) % 4) := IntWalk.i64_in _ (by omega)
      have e5 : 0 ≤ 8 * ((k : Int) % 4) := by omega
      have e6 : (8 * ((k : Int) % 4)).toNat = 8 * (k % 4) := by omega
      have e7 : (k : Int).tmod 4 = (k : Int) % 4 := Int.tmod_eq_emod_of_nonneg (by omega)
      have e8 : IntKind.u32.wrap (n8 (at8 bs k)) = n8 (at8 bs k) := by have h1 := n8_nonneg (at8 bs k); have h2 := n8_lt (at8 bs k); simp [IntKind.wrap, IntKind.bits, IntKind.signed]; omega
      have e9 : IntKind.u32.wrap (n8 (at8 bs k) * 2 ^ (8 * (k % 4))) = n32 (lift8 (at8 bs k) k) := by rw [← lift8_eq]; simp [IntKind.wrap, IntKind.bits, IntKind.signed]
      have Hwb := Lib.hid hwb
      clear hwb
      go_wp2
      refine wp_region_ext 12 (by kernel_rfl) (by kernel_rfl) ?_
      iterate 12 (refine wpX_step (fun K hK => ?_); go_simp; refine hK _ ?_; clear hK K)
      refine wpX_nil ?_
      intro X
      have hx := Hwb.out
      have hXc : WB w w.heap.size (w.heap.size + 1) (wordsN bs k) X.v :=
        ⟨(X.heap _ (lt_of_block hx.r)).trans hx.r, (X.heap _ (lt_of_block hx.m)).trans hx.m, below_then hx.b hx.b.size (w2 := X.v) (below_undrew X.below)⟩
      clear c0 hx Hwb hc1 hc hblk
      generalize X.v = V at hXc ⊢
      have k0 := cell_u32 hXc.m (k / 4) (by omega)
      have f0 : V.frozen? ⟨w.heap.size + 1, k / 4, none⟩ = false := frozen_of hXc.m _
      have HXc := Lib.hid hXc
      clear hXc
      go_wp2
      go_roundw
      case rel =>
        refine ⟨k + 1, by omega, by go_num, ⟨heap_set_other HXc.out.r (by simp <;> omega) _, ?_, HXc.out.b.setCell (by simp <;> omega) _⟩⟩
        have h1 := heap_set HXc.out.m (k / 4) (.int .u32 (n32 (at32 (wordsN bs k) (k / 4) ||| lift8 (at8 bs k) k)))
        rw [u32s_modify _ _ _ (by omega)] at h1
        exact h1
      case measure => simp [intOf]; omega
    · have hk2 : k = bs.length := by omega
      have hw1 : wordsN bs k = wordsOf bs := by rw [hk2]; rfl
      rw [hw1] at hwb
      obtain ⟨c0, c1, c2, c3, c4, c5, c6, c7, c8, c9, c10, c11, c12, c13, c14, c15, hcs⟩ := list16 (length_wordsOf bs)
      rw [hcs] at hwb
      have hm := hwb.m
      have hr := hwb.r
      simp only [u32s, List.map] at hm
      have hone : (#[.int .u32 (n32 c0), .int .u32 (n32 c1), .int .u32 (n32 c2), .int .u32 (n32 c3), .int .u32 (n32 c4), .int .u32 (n32 c5), .int .u32 (n32 c6), .int .u32 (n32 c7), .int .u32 (n32 c8), .int .u32 (n32 c9), .int .u32 (n32 c10), .int .u32 (n32 c11), .int .u32 (n32 c12), .int .u32 (n32 c13), .int .u32 (n32 c14), .int .u32 (n32 c15)] : Array Value).all (·.oneCell') = true := by simp [Value.oneCell']
      have HBw := Lib.hid hwb.b
      have Hk := Lib.hid hk2
      have Hcs := Lib.hid hcs
      clear hwb hk2 hw1 hcs
      go_wp2_with (first | (refine wpList_load_row rfl 80 _ rfl (w.heap.size + 1) rfl 80 _ _ _ hm Try.underlying80 rfl (by kernel_rfl) ?_) | (refine wpList_store_row rfl 80 _ _ rfl w.heap.size #[.int .u32 (n32 c0), .int .u32 (n32 c1), .int .u32 (n32 c2), .int .u32 (n32 c3), .int .u32 (n32 c4), .int .u32 (n32 c5), .int .u32 (n32 c6), .int .u32 (n32 c7), .int .u32 (n32 c8), .int .u32 (n32 c9), .int .u32 (n32 c10), .int .u32 (n32 c11), .int .u32 (n32 c12), .int .u32 (n32 c13), .int .u32 (n32 c14), .int .u32 (n32 c15)] rfl rfl 80 _ hr (by kernel_rfl) rfl hone ?_))
      (try simp only [Exit.inBlock, Exit.then])
      refine bodyPost_ret (results_cell_row rfl _ _ w.heap.size 80 #[.int .u32 (n32 c0), .int .u32 (n32 c1), .int .u32 (n32 c2), .int .u32 (n32 c3), .int .u32 (n32 c4), .int .u32 (n32 c5), .int .u32 (n32 c6), .int .u32 (n32 c7), .int .u32 (n32 c8), .int .u32 (n32 c9), .int .u32 (n32 c10), .int .u32 (n32 c11), .int .u32 (n32 c12), .int .u32 (n32 c13), .int .u32 (n32 c14), .int .u32 (n32 c15)] (0, 0) _ rfl (setRow_heap _ _ _ _ _ _ hr) Try.underlying80 rfl (by kernel_rfl)) rfl ?_
      exact ⟨by rw [Hcs.out]; rfl, below_setRow HBw.out (by omega) _⟩

end

/-! ### RefA -/
section
open Go.RowKit

def rowCells : List Value := rounds10.flatten.map fun n : Nat => Value.int .i64 (n : Int)

end

/-! ### CompR -/
section
open Go.RowKit

attribute [local go_sem] u32_add u32_xor_n u32_or_n u32_not

def laneCells : List Value := lanes.flatten.map fun n : Nat => Value.int .i64 (n : Int)
theorem size_setRow (w : World) (g : Nat) (cs : Array Value) : (w.setRow g cs).heap.size = w.heap.size := by simp [World.setRow]
attribute [local go_sem] size_setRow
/-- The blocks of a call of the reference's Compress, tables included. -/
structure CR (w0 : World) (bt bl : Nat) (h m v : List UInt32) (w : World) : Prop where
  cb : CB w0 w0.heap.size (w0.heap.size + 1) (w0.heap.size + 1 + 1) (w0.heap.size + 1 + 1 + 1) h m v w
  t : w.heap[bt]? = some (.cells rowCells.toArray 102 (0, 0))
  l : w.heap[bl]? = some (.cells laneCells.toArray 104 (0, 0))
  t4 : w0.heap.size + 4 ≤ bt
  l4 : w0.heap.size + 4 ≤ bl
theorem CR.grow {w0 w w' : World} {bt bl : Nat} {h m v : List UInt32} (hx : CR w0 bt bl h m v w) (hb : Below w.heap.size w w') : CR w0 bt bl h m v w' :=
  ⟨⟨heap_below hx.cb.h hb (lt_of_block hx.cb.h), heap_below hx.cb.m hb (lt_of_block hx.cb.m), heap_below hx.cb.r hb (lt_of_block hx.cb.r), heap_below hx.cb.v hb (lt_of_block hx.cb.v), below_then hx.cb.b hx.cb.b.size hb⟩,
    heap_below hx.t hb (lt_of_block hx.t), heap_below hx.l hb (lt_of_block hx.l), hx.t4, hx.l4⟩
end

end Go.Proofs.Ytnfcohpljgmaiaa
