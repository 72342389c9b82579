/- The contracts of bits.RotateLeft32, of digest.Mix and of the reference's Mix. -/
import Derived.Test.YtkkoldfaplonaaaRows
import Derived.Test.YtkkoldfaplonaaaDig
import Derived.Test.YtkkoldfaplonaaaBase
import Derived.WalkKit
import Derived.WalkSpells
import Derived.WalkLawsBesides
import Derived.Deep.QuietTactic
import Derived.BigQuiet
namespace Go.Proofs.Ytkkoldfaplonaaa
open Go.RowKit

theorem u32_add (a b : UInt32) : (n32 a + n32 b) % 4294967296 = n32 (a + b) := by
  unfold n32
  rw [UInt32.toNat_add]
  omega
theorem u32_xor_n (a b : UInt32) : bits .xor .u32 (n32 a) (n32 b) = n32 (a ^^^ b) := by
  unfold n32
  rw [u32_xor_nat _ _ a.toNat_lt b.toNat_lt, UInt32.toNat_xor]
theorem u32_or_n (a b : UInt32) : bits .or .u32 (n32 a) (n32 b) = n32 (a ||| b) := by
  unfold n32
  rw [u32_or_nat _ _ a.toNat_lt b.toNat_lt, UInt32.toNat_or]
theorem rot_count (k : Int) : bits .and .u64 (IntKind.u64.wrap k) 31 = k % 32 := by
  have h := u64_and_nat (k % 18446744073709551616).toNat 31 (by omega) (by omega)
  have e : IntKind.u64.wrap k = ((k % 18446744073709551616).toNat : Int) := by
    simp [IntKind.wrap, IntKind.bits, IntKind.signed]
    omega
  rw [e, show (31 : Int) = ((31 : Nat) : Int) from rfl, h, show (31 : Nat) = 2 ^ 5 - 1 from rfl, Nat.and_two_pow_sub_one_eq_mod]
  omega
theorem rot_value (x : UInt32) (s : Nat) (hs : s < 32) : bits .or .u32 (n32 x * 2 ^ s % 4294967296) (n32 x / 2 ^ (32 - s)) = n32 (rotl x s) := by
  unfold n32
  have hx := x.toNat_lt
  have e1 : ((x.toNat : Int) * 2 ^ s % 4294967296) = ((x.toNat * 2 ^ s % 4294967296 : Nat) : Int) := by simp
  have e2 : ((x.toNat : Int) / 2 ^ (32 - s)) = ((x.toNat / 2 ^ (32 - s) : Nat) : Int) := by simp
  have hd : x.toNat / 2 ^ (32 - s) ≤ x.toNat := Nat.div_le_self _ _
  rw [e1, e2, u32_or_nat _ _ (Nat.mod_lt _ (by omega)) (by omega)]
  have hr : (rotl x s).toNat = (x.toBitVec.rotateLeft s).toNat := rfl
  rw [hr, BitVec.toNat_rotateLeft, Nat.mod_eq_of_lt hs, Nat.shiftLeft_eq, Nat.shiftRight_eq_div_pow]
  rfl

attribute [local go_sem] u32_add u32_xor_n u32_or_n

set_option maxHeartbeats 400000 in
theorem rot_any (x : UInt32) (k : Int) (w : World) :
    Calls Try.prog 30 #[.int .u32 (n32 x), .int .i64 k] w fun e w' => e = .returned (.int .u32 (n32 (rotl x (k % 32).toNat))) ∧ w = w' := by
  have h0 : 0 ≤ k % 32 := by omega
  have h1 : k % 32 < 32 := by omega
  have hc := rot_count k
  have hv := rot_value x (k % 32).toNat (by omega)
  have hs : (32 - k % 32).toNat = 32 - (k % 32).toNat := by omega
  go_enter Try.func30, Try.ntmps30
  go_wp2
  go_ret
  exact ⟨rfl, rfl⟩

def mixVal (q : Quad) : Value := .agg #[.int .u32 (n32 q.a), .int .u32 (n32 q.b), .int .u32 (n32 q.c), .int .u32 (n32 q.d)]

set_option maxHeartbeats 400000 in
theorem mix_any (a b c d x y : UInt32) (w : World) :
    Calls Try.prog 16 #[.agg #[.int .u32 (n32 a), .int .u32 (n32 b), .int .u32 (n32 c), .int .u32 (n32 d)], .int .u32 (n32 x), .int .u32 (n32 y)] w (Ret (mixVal (mix a b c d x y)) w) := by
  go_enter Try.func16, Try.ntmps16
  go_wp2
  go_quiet (fail)
  go_wp2_with (go_at_call 30; ((with_reducible refine (rot_any _ _ _).mono ?_); rintro e w' ⟨rfl, rfl⟩))
  refine bodyPost_ret (v := mixVal (mix a b c d x y)) (by simp [results, Try.results16, go_sem, mixVal, mix]) rfl ⟨rfl, ?_⟩
  repeat (first | exact Below.refl _ _ | refine Below.setCell ?_ (by simp) _ | refine below_drewN ?_ _ | refine Below.alloc ?_ (by simp) _)

set_option maxHeartbeats 400000 in
theorem mixr_any (a b c d x y : UInt32) (w : World) :
    Calls Try.prog 17 #[.agg #[.int .u32 (n32 a), .int .u32 (n32 b), .int .u32 (n32 c), .int .u32 (n32 d)], .int .u32 (n32 x), .int .u32 (n32 y)] w (Ret (mixVal (mix a b c d x y)) w) := by
  go_enter Try.func17, Try.ntmps17
  go_wp2
  go_quiet (fail)
  go_wp2_with (go_at_call 30; ((with_reducible refine (rot_any _ _ _).mono ?_); rintro e w' ⟨rfl, rfl⟩))
  refine bodyPost_ret (v := mixVal (mix a b c d x y)) (by simp [results, Try.results17, go_sem, mixVal, mix, UInt32.add_assoc]) rfl ⟨rfl, ?_⟩
  repeat (first | exact Below.refl _ _ | refine Below.setCell ?_ (by simp) _ | refine below_drewN ?_ _ | refine Below.alloc ?_ (by simp) _)

end Go.Proofs.Ytkkoldfaplonaaa
