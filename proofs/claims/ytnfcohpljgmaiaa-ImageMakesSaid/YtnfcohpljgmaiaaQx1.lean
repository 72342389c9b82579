-- Printed by a program of this session's (wip/pr.py) with contracts of its own; not the kit's print.
import Derived.Test.YtnfcohpljgmaiaaQx0
namespace Go.Proofs.Ytnfcohpljgmaiaa.Q
open Go.RowKit Go.Proofs.YtnfcohpljgmaiaaW.PrintWords Go.Proofs.YtnfcohpljgmaiaaW.PrintLast Go.Proofs.YtnfcohpljgmaiaaW.PrintMore
attribute [local go_sem] max2_int min2_int max_two min_two max_three min_three max_four min_four   -- for this text's walks alone
set_option linter.unusedVariables false
set_option linter.unusedSimpArgs false

/-! ### hopmeshlaw46_awake: function 11 -/
def hopmeshlaw46_awake.f : Option (Bool) := some true
theorem hopmeshlaw46_awake.calls (r : Bool) (w : World) (h : hopmeshlaw46_awake.f = some r) :
    Calls Try.prog 11 #[] w fun e w' => e = .returned (.bool r) ∧ Below w.heap.size w w' := cAwake r w h

/-! ### image_Make: function 12 -/
def image_Make.f (a0 : Int) (a1 : ByteArray) (a2 : Int) (a3 : Int) : Option (Int × Int × Int × Int × List ByteArray × Int) := fMake a0 a1 a2 a3
theorem image_Make.calls (a0 : Int) (a1 : ByteArray) (a2 : Int) (a3 : Int) (r1 : Int) (r2 : Int) (r3 : Int) (r4 : Int) (r5 : List ByteArray) (r6 : Int) (w : World) (h : image_Make.f a0 a1 a2 a3 = some (r1, r2, r3, r4, r5, r6)) :
    Calls Try.prog 12 #[.int .i64 a0, .string a1, .int .i64 a2, .int .i64 a3] w fun e w' => ∃ v4_ : Value, e = .returned (.tuple #[.agg #[.int .i64 r1, .int .i64 r2, .int .i64 r3, .int .i64 r4, v4_], .int .i64 r6]) ∧ Kd.R Kd.string 9 w' w.heap.size (fun _ => True) v4_ r5 ∧ Below w.heap.size w w' := make_any a0 a1 a2 a3 r1 r2 r3 r4 r5 r6 w h

/-! ### hopmeshref46_sizes: function 37 -/
def hopmeshref46_sizes.f (a0 : Int) (a1 : Int) (a2 : Int) : Option (Bool) := if a0 ≥ 1 then (if a0 ≤ 65535 then (if a2 ≥ 1 then (if a2 ≤ 96 then (if a1 ≥ a2 then (if a2 = 0 then (none) else (if (Int.tmod a1 a2) = 0 then (if a1 ≤ 4096 then (some (decide ((wrap64 (Int.tdiv a1 a2)) ≤ 64))) else (some false)) else (some false))) else (some false)) else (some false)) else (some false)) else (some false)) else (some false)
set_option maxHeartbeats 8000000 in
set_option maxRecDepth 100000 in
theorem hopmeshref46_sizes.calls (a0 : Int) (a1 : Int) (a2 : Int) (r : Bool) (w : World) (h : hopmeshref46_sizes.f a0 a1 a2 = some r) :
    Calls Try.prog 37 #[.int .i64 a0, .int .i64 a1, .int .i64 a2] w fun e w' => e = .returned (.bool r) ∧ Drawn0 w w' := by
  have H : (if a0 ≥ 1 then (if a0 ≤ 65535 then (if a2 ≥ 1 then (if a2 ≤ 96 then (if a1 ≥ a2 then (if a2 = 0 then (none) else (if (Int.tmod a1 a2) = 0 then (if a1 ≤ 4096 then (some (decide ((wrap64 (Int.tdiv a1 a2)) ≤ 64))) else (some false)) else (some false))) else (some false)) else (some false)) else (some false)) else (some false)) else (some false)) = some r := h
  clear h
  by_cases c4 : a0 ≥ 1
  · rw [if_pos c4] at H
    have c4b0 : decide (1 ≤ a0) = true := decide_eq_true c4
    clear c4
    by_cases c5 : a0 ≤ 65535
    · rw [if_pos c5] at H
      have c5b0 : decide (a0 ≤ 65535) = true := decide_eq_true c5
      clear c5
      by_cases c6 : a2 ≥ 1
      · rw [if_pos c6] at H
        have c6b0 : decide (1 ≤ a2) = true := decide_eq_true c6
        clear c6
        by_cases c7 : a2 ≤ 96
        · rw [if_pos c7] at H
          have c7b0 : decide (a2 ≤ 96) = true := decide_eq_true c7
          clear c7
          by_cases c8 : a1 ≥ a2
          · rw [if_pos c8] at H
            have c8b0 : decide (a2 ≤ a1) = true := decide_eq_true c8
            clear c8
            by_cases c9 : a2 = 0
            · rw [if_pos c9] at H
              exact absurd H (by simp)
            · rw [if_neg c9] at H
              have c9b0 : (a2 == 0) = false := beq_eq_false_iff_ne.mpr c9
              have c9b1 : (a2 != 0) = true := bne_iff_ne.mpr c9
              by_cases c10 : (Int.tmod a1 a2) = 0
              · rw [if_pos c10] at H
                have c10b0 : ((Int.tmod a1 a2) == 0) = true := beq_iff_eq.mpr c10
                have c10b1 : ((Int.tmod a1 a2) != 0) = false := bne_eq_false_iff_eq.mpr c10
                clear c10
                by_cases c11 : a1 ≤ 4096
                · rw [if_pos c11] at H
                  have c11b0 : decide (a1 ≤ 4096) = true := decide_eq_true c11
                  clear c11
                  obtain rfl := Option.some.inj H
                  go_enter Try.func37, Try.ntmps37
                  go_wp2
                  go_ret
                  exact ⟨by first | rfl | (simp; done) | (simp [*]; done), by repeat (first | exact Drawn0.refl _ | apply Drawn0.step)⟩
                · rw [if_neg c11] at H
                  have c11b0 : decide (a1 ≤ 4096) = false := decide_eq_false c11
                  clear c11
                  obtain rfl := Option.some.inj H
                  go_enter Try.func37, Try.ntmps37
                  go_wp2
                  go_ret
                  exact ⟨by first | rfl | (simp; done) | (simp [*]; done), by repeat (first | exact Drawn0.refl _ | apply Drawn0.step)⟩
              · rw [if_neg c10] at H
                have c10b0 : ((Int.tmod a1 a2) == 0) = false := beq_eq_false_iff_ne.mpr c10
                have c10b1 : ((Int.tmod a1 a2) != 0) = true := bne_iff_ne.mpr c10
                obtain rfl := Option.some.inj H
                go_enter Try.func37, Try.ntmps37
                go_wp2
                go_ret
                exact ⟨by first | rfl | (simp; done) | (simp [*]; done), by repeat (first | exact Drawn0.refl _ | apply Drawn0.step)⟩
          · rw [if_neg c8] at H
            have c8b0 : decide (a2 ≤ a1) = false := decide_eq_false c8
            clear c8
            obtain rfl := Option.some.inj H
            go_enter Try.func37, Try.ntmps37
            go_wp2
            go_ret
            exact ⟨by first | rfl | (simp; done) | (simp [*]; done), by repeat (first | exact Drawn0.refl _ | apply Drawn0.step)⟩
        · rw [if_neg c7] at H
          have c7b0 : decide (a2 ≤ 96) = false := decide_eq_false c7
          clear c7
          obtain rfl := Option.some.inj H
          go_enter Try.func37, Try.ntmps37
          go_wp2
          go_ret
          exact ⟨by first | rfl | (simp; done) | (simp [*]; done), by repeat (first | exact Drawn0.refl _ | apply Drawn0.step)⟩
      · rw [if_neg c6] at H
        have c6b0 : decide (1 ≤ a2) = false := decide_eq_false c6
        clear c6
        obtain rfl := Option.some.inj H
        go_enter Try.func37, Try.ntmps37
        go_wp2
        go_ret
        exact ⟨by first | rfl | (simp; done) | (simp [*]; done), by repeat (first | exact Drawn0.refl _ | apply Drawn0.step)⟩
    · rw [if_neg c5] at H
      have c5b0 : decide (a0 ≤ 65535) = false := decide_eq_false c5
      clear c5
      obtain rfl := Option.some.inj H
      go_enter Try.func37, Try.ntmps37
      go_wp2
      go_ret
      exact ⟨by first | rfl | (simp; done) | (simp [*]; done), by repeat (first | exact Drawn0.refl _ | apply Drawn0.step)⟩
  · rw [if_neg c4] at H
    have c4b0 : decide (1 ≤ a0) = false := decide_eq_false c4
    clear c4
    obtain rfl := Option.some.inj H
    go_enter Try.func37, Try.ntmps37
    go_wp2
    go_ret
    exact ⟨by first | rfl | (simp; done) | (simp [*]; done), by repeat (first | exact Drawn0.refl _ | apply Drawn0.step)⟩

/-! ### hopmeshref46_parts: function 38 -/
def hopmeshref46_parts.f (a0 : Int) (a1 : Int) : Option (Int) := if a1 = 0 then (none) else (some (wrap64 (Int.tdiv (wrap64 ((wrap64 (a0 + a1)) - 1)) a1)))
set_option maxHeartbeats 8000000 in
set_option maxRecDepth 100000 in
theorem hopmeshref46_parts.calls (a0 : Int) (a1 : Int) (r : Int) (w : World) (h : hopmeshref46_parts.f a0 a1 = some r) :
    Calls Try.prog 38 #[.int .i64 a0, .int .i64 a1] w fun e w' => e = .returned (.int .i64 r) ∧ Drawn0 w w' := by
  have H : (if a1 = 0 then (none) else (some (wrap64 (Int.tdiv (wrap64 ((wrap64 (a0 + a1)) - 1)) a1)))) = some r := h
  clear h
  by_cases c3 : a1 = 0
  · rw [if_pos c3] at H
    exact absurd H (by simp)
  · rw [if_neg c3] at H
    have c3b0 : (a1 == 0) = false := beq_eq_false_iff_ne.mpr c3
    have c3b1 : (a1 != 0) = true := bne_iff_ne.mpr c3
    obtain rfl := Option.some.inj H
    go_enter Try.func38, Try.ntmps38
    go_wp2
    go_ret
    exact ⟨by first | rfl | (simp; done) | (simp [*]; done), by repeat (first | exact Drawn0.refl _ | apply Drawn0.step)⟩

/-! ### hopmeshref46_bytes: function 47 -/
def hopmeshref46_bytes.l0 : Nat → Int → List Int → Int → Option (ByteArray)
  | 0, _, _, _ => none
  | k + 1, x0, x5, x6 => if x6 ≥ 0 then (if 0 ≤ (wrap64 (8 * x6)) then (if x5.length < 140737488355328 then (hopmeshref46_bytes.l0 k x0 (x5 ++ [(shr .i64 x0 (wrap64 (8 * x6))) % 256]) (wrap64 (x6 - 1))) else (none)) else (none)) else (some (strOfNums x5))
def hopmeshref46_bytes.f (k : Nat) (a0 : Int) (a1 : Int) : Option (ByteArray) := hopmeshref46_bytes.l0 k a0 ([] : List Int) (wrap64 (a1 - 1))
theorem hopmeshref46_bytes.mono_l : ∀ k, (∀ y0 y1 y2, LeO (hopmeshref46_bytes.l0 k y0 y1 y2) (hopmeshref46_bytes.l0 (k + 1) y0 y1 y2))
  | 0 => fun _ _ _ r h => by simp [hopmeshref46_bytes.l0] at h
  | k + 1 => by
    have ih0 := hopmeshref46_bytes.mono_l k
    · intro y0 y1 y2
      unfold hopmeshref46_bytes.l0
      repeat' first
      | (with_reducible exact ih0 _ _ _)
      | (with_reducible exact LeO.refl _)
      | (with_reducible exact LeO.none _)
      | (with_reducible refine LeO.ite ?_ ?_)
      | (with_reducible refine LeO.bind ?_ (fun _ => ?_))
      | exact ih0 _ _ _
      | exact LeO.none _
      | refine LeO.ite ?_ ?_
      | refine LeO.bind ?_ (fun _ => ?_)
theorem hopmeshref46_bytes.mono : ∀ a0 a1 k, LeO (hopmeshref46_bytes.f k a0 a1) (hopmeshref46_bytes.f (k + 1) a0 a1) := by
  intro a0 a1 k
  have ih0 := hopmeshref46_bytes.mono_l k
  unfold hopmeshref46_bytes.f
  repeat' first
      | (with_reducible exact ih0 _ _ _)
      | (with_reducible exact LeO.refl _)
      | (with_reducible exact LeO.none _)
      | (with_reducible refine LeO.ite ?_ ?_)
      | (with_reducible refine LeO.bind ?_ (fun _ => ?_))
      | exact ih0 _ _ _
      | exact LeO.none _
      | refine LeO.ite ?_ ?_
      | refine LeO.bind ?_ (fun _ => ?_)
set_option maxHeartbeats 8000000 in
set_option maxRecDepth 100000 in
theorem hopmeshref46_bytes.calls (k : Nat) (a0 : Int) (a1 : Int) (r : ByteArray) (w : World) (h : hopmeshref46_bytes.f k a0 a1 = some r) :
    Calls Try.prog 47 #[.int .i64 a0, .int .i64 a1] w fun e w' => e = .returned (.string r) ∧ Below w.heap.size w w' := by
  have HB := Aside0.mk (Below.refl w.heap.size w)
  have H : (hopmeshref46_bytes.l0 k a0 ([] : List Int) (wrap64 (a1 - 1))) = some r := h
  clear h
  have H' := Aside0.mk H
  clear H
  go_enter Try.func47, Try.ntmps47
  go_wp2
  go_loopg [5, 6] k (fun kq v5 v6 w' => ∃ (x5_1 : List Int) (x6_1 : Int), v6 = .int .i64 x6_1 ∧ Aside0 (hopmeshref46_bytes.l0 kq a0 x5_1 x6_1 = some r) ∧ Aside0 (kq ≤ k) ∧ Aside0 (Kd.R (Kd.int .u8) 5 w' w.heap.size (fun _ => True) v5 x5_1) ∧ Aside0 (Below w.heap.size w w'))
  case atStart => exact ⟨(([] : List Int)), (wrap64 (a1 - 1)), (by first | rfl | (simp; done) | (simp [*]; done)), H', ⟨Nat.le_refl _⟩, ⟨by first | exact Kd.R_nil _ _ _ _ _ | exact Kd.N_nil _ _ _ _ _ | exact Kd.V_nil _ _ _ _ _ | exact Kd.Q_nil _ _ _ _ _ | exact Kd.S_nil _ _ _ _ _⟩, ⟨by repeat (first | (with_reducible first | exact HB.out | apply below_alloc | apply pw_below_drewN | apply below_drew1) | exact HB.out)⟩⟩
  case round =>
    clear H'
    try clear p2
    obtain ⟨x5_1, x6_1, rfl, HA, HK1, HO_5, HB⟩ := hrel
    cases gk with
    | zero => exact absurd HA.out (by simp [hopmeshref46_bytes.l0])
    | succ k1 =>
      have H := HA.out
      clear HA
      simp only [hopmeshref46_bytes.l0] at H
      by_cases c3 : x6_1 ≥ 0
      · rw [if_pos c3] at H
        have c3b0 : decide (0 ≤ x6_1) = true := decide_eq_true c3
        clear c3
        obtain ⟨ji4, hji4⟩ : ∃ j_ : Int, (wrap64 (8 * x6_1)) = j_ := ⟨_, rfl⟩
        replace H : (if 0 ≤ (ji4) then (if x5_1.length < 140737488355328 then (hopmeshref46_bytes.l0 k1 a0 (x5_1 ++ [(shr .i64 a0 (ji4)) % 256]) (wrap64 (x6_1 - 1))) else (none)) else (none)) = some r := by first | (rw [hji4] at H; exact H) | (simp only [hji4] at H ⊢; exact H)
        have hji4w : (IntKind.i64.wrap (8 * x6_1)) = ji4 := (i64_w _).trans hji4
        by_cases c5 : 0 ≤ (ji4)
        · rw [if_pos c5] at H
          have c5b0 := eq_true c5
          have c5b1 : decide (0 ≤ (ji4)) = true := decide_eq_true c5
          clear c5
          obtain ⟨ji6, hji6⟩ : ∃ j_ : Int, (shr .i64 a0 (ji4)) = j_ := ⟨_, rfl⟩
          replace H : (if x5_1.length < 140737488355328 then (hopmeshref46_bytes.l0 k1 a0 (x5_1 ++ [(ji6) % 256]) (wrap64 (x6_1 - 1))) else (none)) = some r := by first | (rw [hji6] at H; exact H) | (simp only [hji6] at H ⊢; exact H)
          have hji6_ : (a0 / 2 ^ min (ji4).toNat 64) = ji6 := hji6
          have hji6z : (ji4) ≤ 64 → (a0 / 2 ^ (ji4).toNat) = ji6 := shr_small hji6
          by_cases c7 : x5_1.length < 140737488355328
          · rw [if_pos c7] at H
            have LMc7 := Aside0.mk c7
            clear c7
            obtain ⟨y101, hy101⟩ : ∃ y_ : List Int, y_ = (x5_1 ++ [(ji6) % 256]) := ⟨_, rfl⟩
            replace H : (hopmeshref46_bytes.l0 k1 a0 y101 (wrap64 (x6_1 - 1))) = some r := by first | (rw [hy101]; with_reducible exact H) | (have H2_ := (Option.bind_some _ _).symm.trans H; rw [hy101]; with_reducible exact H2_) | (have H2_ := (Option.bind_some _ _).symm.trans H; with_reducible exact H2_) | with_reducible exact H | (rw [hy101]; exact H) | exact H
            have Ny101 := Aside0.mk hy101
            clear hy101
            have H' := Aside0.mk H
            clear H
            go_wp2_with (first | ((with_reducible refine gate_builtin (b := .append) (xs := #[.tmp 13, .tmp 19]) rfl ?_); at_builtin; refine Kd.R_append (Kd.int .u8) (w0 := w) w.heap.size rfl (.tmp 13) (.tmp 19) 44 5 (.int .u8 0) 1 rfl Try.underlying44 info5 rfl (by decide) (by omega) u5 x5_1 ((ji6) % 256) [.int .u8 ((ji6) % 256)] (fun _ => True) (fun _ => False) rfl rfl ?aP (fun _ hk => hk.elim) ?aF ?aO ?aB ?aS ?aL ?_; (case aP => exact rfl); (case aB => exact (by repeat (first | (with_reducible first | exact HB.out | apply below_alloc | apply pw_below_drewN | apply below_drew1) | exact HB.out))); (case aF => exact (fun _ _ => trivial)); (case aO => exact (by (with_reducible repeat (first | apply Kd.R_alloc | apply Kd.R_drewN | apply Kd.R_drew)); exact HO_5.out)); (case aS => exact (below_size (by repeat (first | (with_reducible first | exact HB.out | apply below_alloc | apply pw_below_drewN | apply below_drew1) | exact HB.out)))); (case aL => have := LMc7.out; omega); intro v102 w8 ho hb hg hat; rw [← Ny101.out] at ho; have n0_ := Aside0.mk (hb); have n1_ := Aside0.mk (ho); clear HB; clear HO_5; have HB := n0_; have HO103 := n1_; clear n0_ n1_; clear ho hb hg hat))
            go_roundg k1
            case measure => have := HK1.out; omega
            case rel => exact ⟨(y101), (wrap64 (x6_1 - 1)), (by first | rfl | (simp; done) | (simp [*]; done)), H', ⟨by have := HK1.out; omega⟩, ⟨by (with_reducible repeat (first | apply Kd.R_alloc | apply Kd.R_drewN | apply Kd.R_drew)); exact HO103.out⟩, ⟨by repeat (first | (with_reducible first | exact HB.out | apply below_alloc | apply pw_below_drewN | apply below_drew1) | exact HB.out)⟩⟩
          · rw [if_neg c7] at H
            exact absurd H (by simp)
        · rw [if_neg c5] at H
          exact absurd H (by simp)
      · rw [if_neg c3] at H
        have c3b0 : decide (0 ≤ x6_1) = false := decide_eq_false c3
        clear c3
        obtain rfl := Option.some.inj H
        have hcv9 := own_string (P := Try.prog) Try.underlying44 Try.underlying5 Try.underlying9 (Kd.own_of_R HO_5.out)
        go_wp2
        go_ret
        exact ⟨by first | rfl | (simp [errW_none, errW_some] <;> rfl) | (simp [*, errW_none, errW_some] <;> rfl), by repeat (first | (with_reducible first | exact HB.out | apply below_alloc | apply pw_below_drewN | apply below_drew1) | exact HB.out)⟩

/-! ### hopmeshref01_Sum: function 48 -/
def hopmeshref01_Sum.f (a0 : ByteArray) : Option (ByteArray) := fSum a0
theorem hopmeshref01_Sum.calls (a0 : ByteArray) (r : ByteArray) (w : World) (h : hopmeshref01_Sum.f a0 = some r) :
    Calls Try.prog 48 #[.string a0] w fun e w' => e = .returned (.string r) ∧ Below w.heap.size w w' := cSumR a0 r w h

/-! ### hopmeshref46_Digest: function 39 -/
def hopmeshref46_Digest.f (k : Nat) (a0 : Int) (a1 : Int) (a2 : ByteArray) : Option (ByteArray) := (hopmeshref46_bytes.f k a0 2).bind fun t104 => (if 4 + t104.size ≤ 9223372036854775807 then ((hopmeshref46_bytes.f k a1 2).bind fun t105 => (if ((⟨#[112, 97, 103, 101]⟩ : ByteArray) ++ t104).size + t105.size ≤ 9223372036854775807 then (if (((⟨#[112, 97, 103, 101]⟩ : ByteArray) ++ t104) ++ t105).size + a2.size ≤ 9223372036854775807 then ((hopmeshref01_Sum.f ((((⟨#[112, 97, 103, 101]⟩ : ByteArray) ++ t104) ++ t105) ++ a2)).bind fun t106 => (some t106)) else (none)) else (none))) else (none))
theorem hopmeshref46_Digest.mono : ∀ a0 a1 a2 k, LeO (hopmeshref46_Digest.f k a0 a1 a2) (hopmeshref46_Digest.f (k + 1) a0 a1 a2) := by
  intro a0 a1 a2 k
  unfold hopmeshref46_Digest.f
  repeat' first
      | (with_reducible exact hopmeshref46_bytes.mono _ _ _)
      | (with_reducible exact LeO.refl _)
      | (with_reducible exact LeO.none _)
      | (with_reducible refine LeO.ite ?_ ?_)
      | (with_reducible refine LeO.bind ?_ (fun _ => ?_))
      | exact hopmeshref46_bytes.mono _ _ _
      | exact LeO.none _
      | refine LeO.ite ?_ ?_
      | refine LeO.bind ?_ (fun _ => ?_)
set_option maxHeartbeats 8000000 in
set_option maxRecDepth 100000 in
theorem hopmeshref46_Digest.calls (k : Nat) (a0 : Int) (a1 : Int) (a2 : ByteArray) (r : ByteArray) (w : World) (h : hopmeshref46_Digest.f k a0 a1 a2 = some r) :
    Calls Try.prog 39 #[.int .i64 a0, .int .i64 a1, .string a2] w fun e w' => e = .returned (.string r) ∧ Below w.heap.size w w' := by
  have HB := Aside0.mk (Below.refl w.heap.size w)
  have H : ((hopmeshref46_bytes.f k a0 2).bind fun t104 => (if 4 + t104.size ≤ 9223372036854775807 then ((hopmeshref46_bytes.f k a1 2).bind fun t105 => (if ((⟨#[112, 97, 103, 101]⟩ : ByteArray) ++ t104).size + t105.size ≤ 9223372036854775807 then (if (((⟨#[112, 97, 103, 101]⟩ : ByteArray) ++ t104) ++ t105).size + a2.size ≤ 9223372036854775807 then ((hopmeshref01_Sum.f ((((⟨#[112, 97, 103, 101]⟩ : ByteArray) ++ t104) ++ t105) ++ a2)).bind fun t106 => (some t106)) else (none)) else (none))) else (none))) = some r := h
  clear h
  replace H := Option.bind_eq_some_iff.mp H
  obtain ⟨t104, A40, H⟩ := H
  replace H : (if 4 + t104.size ≤ 9223372036854775807 then ((hopmeshref46_bytes.f k a1 2).bind fun t105 => (if ((⟨#[112, 97, 103, 101]⟩ : ByteArray) ++ t104).size + t105.size ≤ 9223372036854775807 then (if (((⟨#[112, 97, 103, 101]⟩ : ByteArray) ++ t104) ++ t105).size + a2.size ≤ 9223372036854775807 then ((hopmeshref01_Sum.f ((((⟨#[112, 97, 103, 101]⟩ : ByteArray) ++ t104) ++ t105) ++ a2)).bind fun t106 => (some t106)) else (none)) else (none))) else (none)) = some r := H
  have A4 := Aside0.mk A40
  clear A40
  by_cases c5 : 4 + t104.size ≤ 9223372036854775807
  · rw [if_pos c5] at H
    have c5b0 := eq_true c5
    have c5b1 : decide (4 + t104.size ≤ 9223372036854775807) = true := decide_eq_true c5
    try have c5b2 : (9223372036854775807 < 4 + t104.size) = False := eq_false (Nat.not_lt.2 c5)
    replace H := Option.bind_eq_some_iff.mp H
    obtain ⟨t105, A60, H⟩ := H
    replace H : (if ((⟨#[112, 97, 103, 101]⟩ : ByteArray) ++ t104).size + t105.size ≤ 9223372036854775807 then (if (((⟨#[112, 97, 103, 101]⟩ : ByteArray) ++ t104) ++ t105).size + a2.size ≤ 9223372036854775807 then ((hopmeshref01_Sum.f ((((⟨#[112, 97, 103, 101]⟩ : ByteArray) ++ t104) ++ t105) ++ a2)).bind fun t106 => (some t106)) else (none)) else (none)) = some r := H
    have A6 := Aside0.mk A60
    clear A60
    by_cases c7 : ((⟨#[112, 97, 103, 101]⟩ : ByteArray) ++ t104).size + t105.size ≤ 9223372036854775807
    · rw [if_pos c7] at H
      have c7b0 := eq_true c7
      have c7b1 : decide (((⟨#[112, 97, 103, 101]⟩ : ByteArray) ++ t104).size + t105.size ≤ 9223372036854775807) = true := decide_eq_true c7
      try have c7b2 : (9223372036854775807 < ((⟨#[112, 97, 103, 101]⟩ : ByteArray) ++ t104).size + t105.size) = False := eq_false (Nat.not_lt.2 c7)
      try have c7b3 : (9223372036854775807 < 4 + t104.size + t105.size) = False := eq_false (by have q_ := c7; simp only [ByteArray.size_append] at q_; exact Nat.not_lt.2 q_)
      by_cases c8 : (((⟨#[112, 97, 103, 101]⟩ : ByteArray) ++ t104) ++ t105).size + a2.size ≤ 9223372036854775807
      · rw [if_pos c8] at H
        have c8b0 := eq_true c8
        have c8b1 : decide ((((⟨#[112, 97, 103, 101]⟩ : ByteArray) ++ t104) ++ t105).size + a2.size ≤ 9223372036854775807) = true := decide_eq_true c8
        try have c8b2 : (9223372036854775807 < (((⟨#[112, 97, 103, 101]⟩ : ByteArray) ++ t104) ++ t105).size + a2.size) = False := eq_false (Nat.not_lt.2 c8)
        try have c8b3 : (9223372036854775807 < 4 + t104.size + t105.size + a2.size) = False := eq_false (by have q_ := c8; simp only [ByteArray.size_append] at q_; exact Nat.not_lt.2 q_)
        replace H := Option.bind_eq_some_iff.mp H
        obtain ⟨t106, A90, H⟩ := H
        replace H : (some t106) = some r := H
        have A9 := Aside0.mk A90
        clear A90
        obtain rfl := Option.some.inj H
        go_enter Try.func39, Try.ntmps39
        go_wp2_with (first | ((with_reducible refine gate_callee (f := 47) rfl ?_); refine goesL_ (some 8) rfl rfl Try.func47 (by kernel_rfl) rfl #[.int .i64 a0, .int .i64 2] rfl (by (try simp only [List.map_toArray, List.map_cons, List.map_nil]); first | done | rfl | (simp only [List.length_drop, List.length_take]; rfl)) ?_; (with_reducible refine (hopmeshref46_bytes.calls k a0 2 t104 _ A4.out).mono ?_); rintro e w10 ⟨rfl, hb⟩; refine ⟨_, rfl, ?_⟩; have n0_ := Aside0.mk (below_step (by repeat (first | (with_reducible first | exact HB.out | apply below_alloc | apply pw_below_drewN | apply below_drew1) | exact HB.out)) hb); clear HB; have HB := n0_; clear n0_; (try clear hb); (try clear hb2); (try clear hk); (try clear hi)) | ((with_reducible refine gate_callee (f := 47) rfl ?_); refine goesL_ (some 11) rfl rfl Try.func47 (by kernel_rfl) rfl #[.int .i64 a1, .int .i64 2] rfl (by (try simp only [List.map_toArray, List.map_cons, List.map_nil]); first | done | rfl | (simp only [List.length_drop, List.length_take]; rfl)) ?_; (with_reducible refine (hopmeshref46_bytes.calls k a1 2 t105 _ A6.out).mono ?_); rintro e w11 ⟨rfl, hb⟩; refine ⟨_, rfl, ?_⟩; have n0_ := Aside0.mk (below_step (by repeat (first | (with_reducible first | exact HB.out | apply below_alloc | apply pw_below_drewN | apply below_drew1) | exact HB.out)) hb); clear HB; have HB := n0_; clear n0_; (try clear hb); (try clear hb2); (try clear hk); (try clear hi)) | ((with_reducible refine gate_callee (f := 48) rfl ?_); refine goesL_ (some 15) rfl rfl Try.func48 (by kernel_rfl) rfl #[.string ((((⟨#[112, 97, 103, 101]⟩ : ByteArray) ++ t104) ++ t105) ++ a2)] rfl (by (try simp only [List.map_toArray, List.map_cons, List.map_nil]); first | done | rfl | (simp only [List.length_drop, List.length_take]; rfl)) ?_; (with_reducible refine (hopmeshref01_Sum.calls ((((⟨#[112, 97, 103, 101]⟩ : ByteArray) ++ t104) ++ t105) ++ a2) t106 _ A9.out).mono ?_); rintro e w12 ⟨rfl, hb⟩; refine ⟨_, rfl, ?_⟩; have n0_ := Aside0.mk (below_step (by repeat (first | (with_reducible first | exact HB.out | apply below_alloc | apply pw_below_drewN | apply below_drew1) | exact HB.out)) hb); clear HB; have HB := n0_; clear n0_; (try clear hb); (try clear hb2); (try clear hk); (try clear hi)))
        go_ret
        exact ⟨by first | rfl | (simp [errW_none, errW_some] <;> rfl) | (simp [*, errW_none, errW_some] <;> rfl), by repeat (first | (with_reducible first | exact HB.out | apply below_alloc | apply pw_below_drewN | apply below_drew1) | exact HB.out)⟩
      · rw [if_neg c8] at H
        exact absurd H (by simp)
    · rw [if_neg c7] at H
      exact absurd H (by simp)
  · rw [if_neg c5] at H
    exact absurd H (by simp)

/-! ### hopmeshref46_page: function 40 -/
def hopmeshref46_page.f (a0 : ByteArray) (a1 : Int) (a2 : Int) : Option (ByteArray) := if 0 ≤ (wrap64 (a1 * a2)) then (if (wrap64 (a1 * a2)) ≤ (mn (wrap64 ((wrap64 (a1 + 1)) * a2)) (a0.size : Int)) then (if (mn (wrap64 ((wrap64 (a1 + 1)) * a2)) (a0.size : Int)) ≤ (a0.size : Int) then (some (a0.extract ((wrap64 (a1 * a2)) : Int).toNat ((mn (wrap64 ((wrap64 (a1 + 1)) * a2)) (a0.size : Int)) : Int).toNat)) else (none)) else (none)) else (none)
set_option maxHeartbeats 8000000 in
set_option maxRecDepth 100000 in
theorem hopmeshref46_page.calls (a0 : ByteArray) (a1 : Int) (a2 : Int) (r : ByteArray) (w : World) (h : hopmeshref46_page.f a0 a1 a2 = some r) :
    Calls Try.prog 40 #[.string a0, .int .i64 a1, .int .i64 a2] w fun e w' => e = .returned (.string r) ∧ Below w.heap.size w w' := by
  have HB := Aside0.mk (Below.refl w.heap.size w)
  have H : (if 0 ≤ (wrap64 (a1 * a2)) then (if (wrap64 (a1 * a2)) ≤ (mn (wrap64 ((wrap64 (a1 + 1)) * a2)) (a0.size : Int)) then (if (mn (wrap64 ((wrap64 (a1 + 1)) * a2)) (a0.size : Int)) ≤ (a0.size : Int) then (some (a0.extract ((wrap64 (a1 * a2)) : Int).toNat ((mn (wrap64 ((wrap64 (a1 + 1)) * a2)) (a0.size : Int)) : Int).toNat)) else (none)) else (none)) else (none)) = some r := h
  clear h
  obtain ⟨ji4, hji4⟩ : ∃ j_ : Int, (mn (wrap64 ((wrap64 (a1 + 1)) * a2)) (a0.size : Int)) = j_ := ⟨_, rfl⟩
  replace H : (if 0 ≤ (wrap64 (a1 * a2)) then (if (wrap64 (a1 * a2)) ≤ (ji4) then (if (ji4) ≤ (a0.size : Int) then (some (a0.extract ((wrap64 (a1 * a2)) : Int).toNat ((ji4) : Int).toNat)) else (none)) else (none)) else (none)) = some r := by first | (rw [hji4] at H; exact H) | (simp only [hji4] at H ⊢; exact H)
  have hji4_ : (if (a0.size : Int) < (wrap64 ((wrap64 (a1 + 1)) * a2)) then (a0.size : Int) else (wrap64 ((wrap64 (a1 + 1)) * a2))) = ji4 := hji4
  obtain ⟨ji5, hji5⟩ : ∃ j_ : Int, (wrap64 (a1 * a2)) = j_ := ⟨_, rfl⟩
  replace H : (if 0 ≤ (ji5) then (if (ji5) ≤ (ji4) then (if (ji4) ≤ (a0.size : Int) then (some (a0.extract ((ji5) : Int).toNat ((ji4) : Int).toNat)) else (none)) else (none)) else (none)) = some r := by first | (rw [hji5] at H; exact H) | (simp only [hji5] at H ⊢; exact H)
  have hji5w : (IntKind.i64.wrap (a1 * a2)) = ji5 := (i64_w _).trans hji5
  by_cases c6 : 0 ≤ (ji5)
  · rw [if_pos c6] at H
    have c6b0 := eq_true c6
    have c6b1 : decide (0 ≤ (ji5)) = true := decide_eq_true c6
    clear c6
    by_cases c7 : (ji5) ≤ (ji4)
    · rw [if_pos c7] at H
      have c7b0 := eq_true c7
      have c7b1 : decide ((ji5) ≤ (ji4)) = true := decide_eq_true c7
      clear c7
      by_cases c8 : (ji4) ≤ (a0.size : Int)
      · rw [if_pos c8] at H
        have c8b0 := eq_true c8
        have c8b1 : decide ((ji4) ≤ (a0.size : Int)) = true := decide_eq_true c8
        clear c8
        obtain rfl := Option.some.inj H
        go_enter Try.func40, Try.ntmps40
        go_wp2
        go_ret
        exact ⟨by first | rfl | (simp [errW_none, errW_some] <;> rfl) | (simp only [← hji4, ← hji5]; first | rfl | (simp [errW_none, errW_some] <;> rfl)) | (simp [*, errW_none, errW_some] <;> rfl), by repeat (first | (with_reducible first | exact HB.out | apply below_alloc | apply pw_below_drewN | apply below_drew1) | exact HB.out)⟩
      · rw [if_neg c8] at H
        exact absurd H (by simp)
    · rw [if_neg c7] at H
      exact absurd H (by simp)
  · rw [if_neg c6] at H
    exact absurd H (by simp)

end Go.Proofs.Ytnfcohpljgmaiaa.Q
