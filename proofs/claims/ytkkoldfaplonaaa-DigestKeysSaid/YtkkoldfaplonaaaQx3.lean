-- Printed by a program of this session's (wip/pr.py) with contracts of its own; not the kit's print.
import Derived.Test.YtkkoldfaplonaaaQx0
import Derived.Test.YtkkoldfaplonaaaQx1
namespace Go.Proofs.Ytkkoldfaplonaaa.Q
open Go.RowKit Go.Proofs.YtkkoldfaplonaaaW.PrintWords Go.Proofs.YtkkoldfaplonaaaW.PrintLast Go.Proofs.YtkkoldfaplonaaaW.PrintMore
attribute [local go_sem] max2_int min2_int max_two min_two max_three min_three max_four min_four   -- for this text's walks alone
set_option linter.unusedVariables false
set_option linter.unusedSimpArgs false

/-! ### hopmeshlaw01_DigestKeys: function 9 -/
mutual
def hopmeshlaw01_DigestKeys.j0 : Nat → ByteArray → ByteArray → ByteArray → Bool → Option (Bool)
  | 0, _, _, _, _ => none
  | k + 1, x0, x1, x2, x31 => if x31 = true then (some true) else ((digest_Keyed.f x0 x2).bind fun bt119 => ((digest_Keyed.f x1 x2).bind fun bt121 => ((digest_Keyed.f (⟨#[]⟩ : ByteArray) x2).bind fun bt123 => (if bt119.2 = 0 then (if bt121.2 = 0 then (if bt123.2 = 0 then (if (bt119.1.size : Int) = 32 then ((digest_Sum.f x2).bind fun t125 => (hopmeshlaw01_DigestKeys.j1 k x0 x1 x2 bt119.1 bt121.1 (bt123.1.toList != t125.toList))) else (hopmeshlaw01_DigestKeys.j1 k x0 x1 x2 bt119.1 bt121.1 true)) else (hopmeshlaw01_DigestKeys.j1 k x0 x1 x2 bt119.1 bt121.1 true)) else (hopmeshlaw01_DigestKeys.j1 k x0 x1 x2 bt119.1 bt121.1 true)) else (hopmeshlaw01_DigestKeys.j1 k x0 x1 x2 bt119.1 bt121.1 true)))))
def hopmeshlaw01_DigestKeys.j1 : Nat → ByteArray → ByteArray → ByteArray → ByteArray → ByteArray → Bool → Option (Bool)
  | 0, _, _, _, _, _, _ => none
  | k + 1, x0, x1, x2, x7, x9, x69 => if x69 = true then (some false) else (if x0.toList = x1.toList then (some (x7.toList == x9.toList)) else ((hopmeshref01_Keyed.f x0 x2).bind fun bt126 => ((hopmeshref01_Keyed.f x1 x2).bind fun bt128 => (if x7.toList = x9.toList then (some (bt126.1.toList == bt128.1.toList)) else (some true)))))
end
def hopmeshlaw01_DigestKeys.f (k : Nat) (a0 : ByteArray) (a1 : ByteArray) (a2 : ByteArray) : Option (Bool) := (hopmeshlaw01_awake.f).bind fun t118 => (if t118 = true then (if (a0.size : Int) > 32 then (hopmeshlaw01_DigestKeys.j0 k a0 a1 a2 true) else (if (a1.size : Int) > 32 then (hopmeshlaw01_DigestKeys.j0 k a0 a1 a2 true) else (hopmeshlaw01_DigestKeys.j0 k a0 a1 a2 (decide ((a2.size : Int) > 300))))) else (some false))
theorem hopmeshlaw01_DigestKeys.mono_l : ∀ k, (∀ y0 y1 y2 y3, LeO (hopmeshlaw01_DigestKeys.j0 k y0 y1 y2 y3) (hopmeshlaw01_DigestKeys.j0 (k + 1) y0 y1 y2 y3)) ∧ (∀ y0 y1 y2 y3 y4 y5, LeO (hopmeshlaw01_DigestKeys.j1 k y0 y1 y2 y3 y4 y5) (hopmeshlaw01_DigestKeys.j1 (k + 1) y0 y1 y2 y3 y4 y5))
  | 0 => ⟨fun _ _ _ _ r h => by simp [hopmeshlaw01_DigestKeys.j0] at h, fun _ _ _ _ _ _ r h => by simp [hopmeshlaw01_DigestKeys.j1] at h⟩
  | k + 1 => by
    obtain ⟨ih0, ih1⟩ := hopmeshlaw01_DigestKeys.mono_l k
    refine ⟨?_, ?_⟩
    · intro y0 y1 y2 y3
      unfold hopmeshlaw01_DigestKeys.j0
      repeat' first
      | (with_reducible exact ih0 _ _ _ _)
      | (with_reducible exact ih1 _ _ _ _ _ _)
      | (with_reducible exact LeO.refl _)
      | (with_reducible exact LeO.none _)
      | (with_reducible refine LeO.ite ?_ ?_)
      | (with_reducible refine LeO.bind ?_ (fun _ => ?_))
      | exact ih0 _ _ _ _
      | exact ih1 _ _ _ _ _ _
      | exact LeO.none _
      | refine LeO.ite ?_ ?_
      | refine LeO.bind ?_ (fun _ => ?_)
    · intro y0 y1 y2 y3 y4 y5
      unfold hopmeshlaw01_DigestKeys.j1
      repeat' first
      | (with_reducible exact ih0 _ _ _ _)
      | (with_reducible exact ih1 _ _ _ _ _ _)
      | (with_reducible exact LeO.refl _)
      | (with_reducible exact LeO.none _)
      | (with_reducible refine LeO.ite ?_ ?_)
      | (with_reducible refine LeO.bind ?_ (fun _ => ?_))
      | exact ih0 _ _ _ _
      | exact ih1 _ _ _ _ _ _
      | exact LeO.none _
      | refine LeO.ite ?_ ?_
      | refine LeO.bind ?_ (fun _ => ?_)
theorem hopmeshlaw01_DigestKeys.mono : ∀ a0 a1 a2 k, LeO (hopmeshlaw01_DigestKeys.f k a0 a1 a2) (hopmeshlaw01_DigestKeys.f (k + 1) a0 a1 a2) := by
  intro a0 a1 a2 k
  obtain ⟨ih0, ih1⟩ := hopmeshlaw01_DigestKeys.mono_l k
  unfold hopmeshlaw01_DigestKeys.f
  repeat' first
      | (with_reducible exact ih0 _ _ _ _)
      | (with_reducible exact ih1 _ _ _ _ _ _)
      | (with_reducible exact LeO.refl _)
      | (with_reducible exact LeO.none _)
      | (with_reducible refine LeO.ite ?_ ?_)
      | (with_reducible refine LeO.bind ?_ (fun _ => ?_))
      | exact ih0 _ _ _ _
      | exact ih1 _ _ _ _ _ _
      | exact LeO.none _
      | refine LeO.ite ?_ ?_
      | refine LeO.bind ?_ (fun _ => ?_)
set_option maxHeartbeats 8000000 in
set_option maxRecDepth 100000 in
theorem hopmeshlaw01_DigestKeys.calls (k : Nat) (a0 : ByteArray) (a1 : ByteArray) (a2 : ByteArray) (r : Bool) (w : World) (h : hopmeshlaw01_DigestKeys.f k a0 a1 a2 = some r) :
    Calls Try.prog 9 #[.string a0, .string a1, .string a2] w fun e w' => e = .returned (.bool r) ∧ Below w.heap.size w w' := by
  have HB := Aside0.mk (Below.refl w.heap.size w)
  have H : ((hopmeshlaw01_awake.f).bind fun t118 => (if t118 = true then (if (a0.size : Int) > 32 then (hopmeshlaw01_DigestKeys.j0 k a0 a1 a2 true) else (if (a1.size : Int) > 32 then (hopmeshlaw01_DigestKeys.j0 k a0 a1 a2 true) else (hopmeshlaw01_DigestKeys.j0 k a0 a1 a2 (decide ((a2.size : Int) > 300))))) else (some false))) = some r := h
  clear h
  replace H := Option.bind_eq_some_iff.mp H
  obtain ⟨t118, A40, H⟩ := H
  replace H : (if t118 = true then (if (a0.size : Int) > 32 then (hopmeshlaw01_DigestKeys.j0 k a0 a1 a2 true) else (if (a1.size : Int) > 32 then (hopmeshlaw01_DigestKeys.j0 k a0 a1 a2 true) else (hopmeshlaw01_DigestKeys.j0 k a0 a1 a2 (decide ((a2.size : Int) > 300))))) else (some false)) = some r := H
  have A4 := Aside0.mk A40
  clear A40
  by_cases c5 : t118 = true
  · subst c5
    have H1 : (if (a0.size : Int) > 32 then (hopmeshlaw01_DigestKeys.j0 k a0 a1 a2 true) else (if (a1.size : Int) > 32 then (hopmeshlaw01_DigestKeys.j0 k a0 a1 a2 true) else (hopmeshlaw01_DigestKeys.j0 k a0 a1 a2 (decide ((a2.size : Int) > 300))))) = some r := by rw [if_pos rfl] at H; exact H
    clear H
    have H := H1
    clear H1
    have HC6 := Aside0.mk H
    clear H
    go_enter Try.func9, Try.ntmps9
    go_upto_region 3 with (first | ((with_reducible refine gate_callee (f := 11) rfl ?_); refine goesL_ (some 17) rfl rfl Try.func11 (by kernel_rfl) rfl #[] rfl (by (try simp only [List.map_toArray, List.map_cons, List.map_nil]); first | done | rfl | (simp only [List.length_drop, List.length_take]; rfl)) ?_; (with_reducible refine (hopmeshlaw01_awake.calls  true _ A4.out).mono ?_); rintro e w7 ⟨rfl, hb⟩; refine ⟨_, rfl, ?_⟩; have n0_ := Aside0.mk (below_step (by repeat (first | (with_reducible first | exact HB.out | apply below_alloc | apply pw_below_drewN | apply below_drew1) | exact HB.out)) hb); clear HB; have HB := n0_; clear n0_; (try clear hb); (try clear hb2); (try clear hk); (try clear hi)))
    (try simp only [Act.put, List.setIfInBounds_toArray, List.set_cons_zero, List.set_cons_succ])
    go_cut [31] (fun v31 wc => ∃ (kq : Nat) (x31_5 : Bool), v31 = .bool x31_5 ∧ Aside0 (hopmeshlaw01_DigestKeys.j0 kq a0 a1 a2 x31_5 = some r) ∧ Aside0 (kq ≤ k) ∧ Aside0 (Below w.heap.size w wc))
    case first =>
      have H := HC6.out
      clear HC6
      by_cases c8 : (a0.size : Int) > 32
      · rw [if_pos c8] at H
        have c8b0 : decide (32 < (a0.size : Int)) = true := decide_eq_true c8
        have c8b1 : decide (32 < a0.size) = true := decide_eq_true (by omega)
        clear c8
        (first | rw [c8b0] | (simp only [i64_w, i32_w]; rw [c8b0]) | skip)
        have H' := Aside0.mk H
        clear H
        go_wp2
        go_meet
        case rel => exact ⟨_, (true), (by first | rfl | (simp; done) | (simp [*]; done)), H', ⟨by first | omega | exact Nat.le_refl _⟩, ⟨by repeat (first | (with_reducible first | exact HB.out | apply below_alloc | apply pw_below_drewN | apply below_drew1) | exact HB.out)⟩⟩
      · rw [if_neg c8] at H
        have c8b0 : decide (32 < (a0.size : Int)) = false := decide_eq_false c8
        have c8b1 : decide (32 < a0.size) = false := decide_eq_false (by omega)
        clear c8
        (first | rw [c8b0] | (simp only [i64_w, i32_w]; rw [c8b0]) | skip)
        by_cases c9 : (a1.size : Int) > 32
        · rw [if_pos c9] at H
          have c9b0 : decide (32 < (a1.size : Int)) = true := decide_eq_true c9
          have c9b1 : decide (32 < a1.size) = true := decide_eq_true (by omega)
          clear c9
          have H' := Aside0.mk H
          clear H
          go_wp2
          go_meet
          case rel => exact ⟨_, (true), (by first | rfl | (simp; done) | (simp [*]; done)), H', ⟨by first | omega | exact Nat.le_refl _⟩, ⟨by repeat (first | (with_reducible first | exact HB.out | apply below_alloc | apply pw_below_drewN | apply below_drew1) | exact HB.out)⟩⟩
        · rw [if_neg c9] at H
          have c9b0 : decide (32 < (a1.size : Int)) = false := decide_eq_false c9
          have c9b1 : decide (32 < a1.size) = false := decide_eq_false (by omega)
          clear c9
          have H' := Aside0.mk H
          clear H
          go_wp2
          go_meet
          case rel => exact ⟨_, (decide ((a2.size : Int) > 300)), (by first | rfl | (simp; done) | (simp [*]; done)), H', ⟨by first | omega | exact Nat.le_refl _⟩, ⟨by repeat (first | (with_reducible first | exact HB.out | apply below_alloc | apply pw_below_drewN | apply below_drew1) | exact HB.out)⟩⟩
    case rest =>
      clear HC6
      try clear c1
      try clear p2
      try clear c5
      try clear c8
      try clear c8b0
      try clear c8b1
      try clear c9
      try clear c9b0
      try clear c9b1
      obtain ⟨kq, x31_5, rfl, HA, HJ5, HB⟩ := hcut
      cases kq with
      | zero => exact absurd HA.out (by simp [hopmeshlaw01_DigestKeys.j0])
      | succ kj5 =>
        have H := HA.out
        clear HA
        simp only [hopmeshlaw01_DigestKeys.j0] at H
        by_cases c10 : x31_5 = true
        · subst c10
          have H1 : (some true) = some r := by rw [if_pos rfl] at H; exact H
          clear H
          have H := H1
          clear H1
          obtain rfl := Option.some.inj H
          go_wp2
          go_ret
          exact ⟨by first | rfl | (simp [errW_none, errW_some] <;> rfl) | (simp [*, errW_none, errW_some] <;> rfl), by repeat (first | (with_reducible first | exact HB.out | apply below_alloc | apply pw_below_drewN | apply below_drew1) | exact HB.out)⟩
        · replace c10 := Bool.eq_false_iff.mpr c10
          subst c10
          have H1 : ((digest_Keyed.f a0 a2).bind fun bt119 => ((digest_Keyed.f a1 a2).bind fun bt121 => ((digest_Keyed.f (⟨#[]⟩ : ByteArray) a2).bind fun bt123 => (if bt119.2 = 0 then (if bt121.2 = 0 then (if bt123.2 = 0 then (if (bt119.1.size : Int) = 32 then ((digest_Sum.f a2).bind fun t125 => (hopmeshlaw01_DigestKeys.j1 kj5 a0 a1 a2 bt119.1 bt121.1 (bt123.1.toList != t125.toList))) else (hopmeshlaw01_DigestKeys.j1 kj5 a0 a1 a2 bt119.1 bt121.1 true)) else (hopmeshlaw01_DigestKeys.j1 kj5 a0 a1 a2 bt119.1 bt121.1 true)) else (hopmeshlaw01_DigestKeys.j1 kj5 a0 a1 a2 bt119.1 bt121.1 true)) else (hopmeshlaw01_DigestKeys.j1 kj5 a0 a1 a2 bt119.1 bt121.1 true))))) = some r := by rw [if_neg (show ¬ (false = true) by decide)] at H; exact H
          clear H
          have H := H1
          clear H1
          replace H := Option.bind_eq_some_iff.mp H
          obtain ⟨⟨t119, t120⟩, A110, H⟩ := H
          replace H : ((digest_Keyed.f a1 a2).bind fun bt121 => ((digest_Keyed.f (⟨#[]⟩ : ByteArray) a2).bind fun bt123 => (if t120 = 0 then (if bt121.2 = 0 then (if bt123.2 = 0 then (if (t119.size : Int) = 32 then ((digest_Sum.f a2).bind fun t125 => (hopmeshlaw01_DigestKeys.j1 kj5 a0 a1 a2 t119 bt121.1 (bt123.1.toList != t125.toList))) else (hopmeshlaw01_DigestKeys.j1 kj5 a0 a1 a2 t119 bt121.1 true)) else (hopmeshlaw01_DigestKeys.j1 kj5 a0 a1 a2 t119 bt121.1 true)) else (hopmeshlaw01_DigestKeys.j1 kj5 a0 a1 a2 t119 bt121.1 true)) else (hopmeshlaw01_DigestKeys.j1 kj5 a0 a1 a2 t119 bt121.1 true)))) = some r := H
          have A11 := Aside0.mk A110
          clear A110
          replace H := Option.bind_eq_some_iff.mp H
          obtain ⟨⟨t121, t122⟩, A120, H⟩ := H
          replace H : ((digest_Keyed.f (⟨#[]⟩ : ByteArray) a2).bind fun bt123 => (if t120 = 0 then (if t122 = 0 then (if bt123.2 = 0 then (if (t119.size : Int) = 32 then ((digest_Sum.f a2).bind fun t125 => (hopmeshlaw01_DigestKeys.j1 kj5 a0 a1 a2 t119 t121 (bt123.1.toList != t125.toList))) else (hopmeshlaw01_DigestKeys.j1 kj5 a0 a1 a2 t119 t121 true)) else (hopmeshlaw01_DigestKeys.j1 kj5 a0 a1 a2 t119 t121 true)) else (hopmeshlaw01_DigestKeys.j1 kj5 a0 a1 a2 t119 t121 true)) else (hopmeshlaw01_DigestKeys.j1 kj5 a0 a1 a2 t119 t121 true))) = some r := H
          have A12 := Aside0.mk A120
          clear A120
          replace H := Option.bind_eq_some_iff.mp H
          obtain ⟨⟨t123, t124⟩, A130, H⟩ := H
          replace H : (if t120 = 0 then (if t122 = 0 then (if t124 = 0 then (if (t119.size : Int) = 32 then ((digest_Sum.f a2).bind fun t125 => (hopmeshlaw01_DigestKeys.j1 kj5 a0 a1 a2 t119 t121 (t123.toList != t125.toList))) else (hopmeshlaw01_DigestKeys.j1 kj5 a0 a1 a2 t119 t121 true)) else (hopmeshlaw01_DigestKeys.j1 kj5 a0 a1 a2 t119 t121 true)) else (hopmeshlaw01_DigestKeys.j1 kj5 a0 a1 a2 t119 t121 true)) else (hopmeshlaw01_DigestKeys.j1 kj5 a0 a1 a2 t119 t121 true)) = some r := H
          have A13 := Aside0.mk A130
          clear A130
          have HC14 := Aside0.mk H
          clear H
          go_upto_region 8 with (first | ((with_reducible refine gate_callee (f := 14) rfl ?_); refine goesL_ (some 35) rfl rfl Try.func14 (by kernel_rfl) rfl #[.string a0, .string a2] rfl (by (try simp only [List.map_toArray, List.map_cons, List.map_nil]); first | done | rfl | (simp only [List.length_drop, List.length_take]; rfl)) ?_; (with_reducible refine (digest_Keyed.calls a0 a2 t119 t120 _ A11.out).mono ?_); rintro e w15 ⟨rfl, hb⟩; refine ⟨_, rfl, ?_⟩; have n0_ := Aside0.mk (below_step (by repeat (first | (with_reducible first | exact HB.out | apply below_alloc | apply pw_below_drewN | apply below_drew1) | exact HB.out)) hb); clear HB; have HB := n0_; clear n0_; (try clear hb); (try clear hb2); (try clear hk); (try clear hi)) | ((with_reducible refine gate_callee (f := 14) rfl ?_); refine goesL_ (some 41) rfl rfl Try.func14 (by kernel_rfl) rfl #[.string a1, .string a2] rfl (by (try simp only [List.map_toArray, List.map_cons, List.map_nil]); first | done | rfl | (simp only [List.length_drop, List.length_take]; rfl)) ?_; (with_reducible refine (digest_Keyed.calls a1 a2 t121 t122 _ A12.out).mono ?_); rintro e w16 ⟨rfl, hb⟩; refine ⟨_, rfl, ?_⟩; have n0_ := Aside0.mk (below_step (by repeat (first | (with_reducible first | exact HB.out | apply below_alloc | apply pw_below_drewN | apply below_drew1) | exact HB.out)) hb); clear HB; have HB := n0_; clear n0_; (try clear hb); (try clear hb2); (try clear hk); (try clear hi)) | ((with_reducible refine gate_callee (f := 14) rfl ?_); refine goesL_ (some 46) rfl rfl Try.func14 (by kernel_rfl) rfl #[.string (⟨#[]⟩ : ByteArray), .string a2] rfl (by (try simp only [List.map_toArray, List.map_cons, List.map_nil]); first | done | rfl | (simp only [List.length_drop, List.length_take]; rfl)) ?_; (with_reducible refine (digest_Keyed.calls (⟨#[]⟩ : ByteArray) a2 t123 t124 _ A13.out).mono ?_); rintro e w17 ⟨rfl, hb⟩; refine ⟨_, rfl, ?_⟩; have n0_ := Aside0.mk (below_step (by repeat (first | (with_reducible first | exact HB.out | apply below_alloc | apply pw_below_drewN | apply below_drew1) | exact HB.out)) hb); clear HB; have HB := n0_; clear n0_; (try clear hb); (try clear hb2); (try clear hk); (try clear hi)))
          (try simp only [Act.put, List.setIfInBounds_toArray, List.set_cons_zero, List.set_cons_succ])
          go_cut [69] (fun v69 wc => ∃ (kq : Nat) (x69_13 : Bool), v69 = .bool x69_13 ∧ Aside0 (hopmeshlaw01_DigestKeys.j1 kq a0 a1 a2 t119 t121 x69_13 = some r) ∧ Aside0 (kq ≤ kj5) ∧ Aside0 (Below w.heap.size w wc))
          case first =>
            have H := HC14.out
            clear HC14
            by_cases c18 : t120 = 0
            · rw [if_pos c18] at H
              have c18b0 : (t120 == 0) = true := beq_iff_eq.mpr c18
              have c18b1 : (t120 != 0) = false := bne_eq_false_iff_eq.mpr c18
              clear c18
              (first | rw [c18b0] | (simp only [i64_w, i32_w]; rw [c18b0]) | skip)
              by_cases c19 : t122 = 0
              · rw [if_pos c19] at H
                have c19b0 : (t122 == 0) = true := beq_iff_eq.mpr c19
                have c19b1 : (t122 != 0) = false := bne_eq_false_iff_eq.mpr c19
                clear c19
                by_cases c20 : t124 = 0
                · rw [if_pos c20] at H
                  have c20b0 : (t124 == 0) = true := beq_iff_eq.mpr c20
                  have c20b1 : (t124 != 0) = false := bne_eq_false_iff_eq.mpr c20
                  clear c20
                  by_cases c21 : (t119.size : Int) = 32
                  · rw [if_pos c21] at H
                    have c21b0 : ((t119.size : Int) == 32) = true := beq_iff_eq.mpr c21
                    have c21b1 : ((t119.size : Int) != 32) = false := bne_eq_false_iff_eq.mpr c21
                    clear c21
                    replace H := Option.bind_eq_some_iff.mp H
                    obtain ⟨t125, A220, H⟩ := H
                    replace H : (hopmeshlaw01_DigestKeys.j1 kj5 a0 a1 a2 t119 t121 (t123.toList != t125.toList)) = some r := H
                    have A22 := Aside0.mk A220
                    clear A220
                    have H' := Aside0.mk H
                    clear H
                    go_wp2_with (first | (go_at_call 12; (with_reducible refine (digest_Sum.calls a2 t125 _ A22.out).mono ?_); rintro e w23 ⟨rfl, hb⟩; have n0_ := Aside0.mk (below_step (by repeat (first | (with_reducible first | exact HB.out | apply below_alloc | apply pw_below_drewN | apply below_drew1) | exact HB.out)) hb); clear HB; have HB := n0_; clear n0_; (try clear hb); (try clear hb2); (try clear hk); (try clear hi)))
                    go_meet
                    case rel => exact ⟨_, ((t123.toList != t125.toList)), (by first | rfl | (simp; done) | (simp [*]; done)), H', ⟨by have := HJ5.out; first | omega | exact Nat.le_refl _⟩, ⟨by repeat (first | (with_reducible first | exact HB.out | apply below_alloc | apply pw_below_drewN | apply below_drew1) | exact HB.out)⟩⟩
                  · rw [if_neg c21] at H
                    have c21b0 : ((t119.size : Int) == 32) = false := beq_eq_false_iff_ne.mpr c21
                    have c21b1 : ((t119.size : Int) != 32) = true := bne_iff_ne.mpr c21
                    have H' := Aside0.mk H
                    clear H
                    go_wp2
                    go_meet
                    case rel => exact ⟨_, (true), (by first | rfl | (simp; done) | (simp [*]; done)), H', ⟨by have := HJ5.out; first | omega | exact Nat.le_refl _⟩, ⟨by repeat (first | (with_reducible first | exact HB.out | apply below_alloc | apply pw_below_drewN | apply below_drew1) | exact HB.out)⟩⟩
                · rw [if_neg c20] at H
                  have c20b0 : (t124 == 0) = false := beq_eq_false_iff_ne.mpr c20
                  have c20b1 : (t124 != 0) = true := bne_iff_ne.mpr c20
                  have H' := Aside0.mk H
                  clear H
                  go_wp2
                  go_meet
                  case rel => exact ⟨_, (true), (by first | rfl | (simp; done) | (simp [*]; done)), H', ⟨by have := HJ5.out; first | omega | exact Nat.le_refl _⟩, ⟨by repeat (first | (with_reducible first | exact HB.out | apply below_alloc | apply pw_below_drewN | apply below_drew1) | exact HB.out)⟩⟩
              · rw [if_neg c19] at H
                have c19b0 : (t122 == 0) = false := beq_eq_false_iff_ne.mpr c19
                have c19b1 : (t122 != 0) = true := bne_iff_ne.mpr c19
                have H' := Aside0.mk H
                clear H
                go_wp2
                go_meet
                case rel => exact ⟨_, (true), (by first | rfl | (simp; done) | (simp [*]; done)), H', ⟨by have := HJ5.out; first | omega | exact Nat.le_refl _⟩, ⟨by repeat (first | (with_reducible first | exact HB.out | apply below_alloc | apply pw_below_drewN | apply below_drew1) | exact HB.out)⟩⟩
            · rw [if_neg c18] at H
              have c18b0 : (t120 == 0) = false := beq_eq_false_iff_ne.mpr c18
              have c18b1 : (t120 != 0) = true := bne_iff_ne.mpr c18
              (first | rw [c18b0] | (simp only [i64_w, i32_w]; rw [c18b0]) | skip)
              have H' := Aside0.mk H
              clear H
              go_wp2
              go_meet
              case rel => exact ⟨_, (true), (by first | rfl | (simp; done) | (simp [*]; done)), H', ⟨by have := HJ5.out; first | omega | exact Nat.le_refl _⟩, ⟨by repeat (first | (with_reducible first | exact HB.out | apply below_alloc | apply pw_below_drewN | apply below_drew1) | exact HB.out)⟩⟩
          case rest =>
            clear HC14
            try clear c1
            try clear c2
            try clear p2
            try clear c5
            try clear c8
            try clear c8b0
            try clear c8b1
            try clear c9
            try clear c9b0
            try clear c9b1
            try clear c10
            try clear c11
            try clear c14
            try clear c18
            try clear c18b0
            try clear c18b1
            try clear c19
            try clear c19b0
            try clear c19b1
            try clear c20
            try clear c20b0
            try clear c20b1
            try clear c21
            try clear c21b0
            try clear c21b1
            try clear p2
            obtain ⟨kq, x69_13, rfl, HA, HJ13, HB⟩ := hcut
            cases kq with
            | zero => exact absurd HA.out (by simp [hopmeshlaw01_DigestKeys.j1])
            | succ kj13 =>
              have H := HA.out
              clear HA
              simp only [hopmeshlaw01_DigestKeys.j1] at H
              by_cases c24 : x69_13 = true
              · subst c24
                have H1 : (some false) = some r := by rw [if_pos rfl] at H; exact H
                clear H
                have H := H1
                clear H1
                obtain rfl := Option.some.inj H
                go_wp2
                go_ret
                exact ⟨by first | rfl | (simp [errW_none, errW_some] <;> rfl) | (simp [*, errW_none, errW_some] <;> rfl), by repeat (first | (with_reducible first | exact HB.out | apply below_alloc | apply pw_below_drewN | apply below_drew1) | exact HB.out)⟩
              · replace c24 := Bool.eq_false_iff.mpr c24
                subst c24
                have H1 : (if a0.toList = a1.toList then (some (t119.toList == t121.toList)) else ((hopmeshref01_Keyed.f a0 a2).bind fun bt126 => ((hopmeshref01_Keyed.f a1 a2).bind fun bt128 => (if t119.toList = t121.toList then (some (bt126.1.toList == bt128.1.toList)) else (some true))))) = some r := by rw [if_neg (show ¬ (false = true) by decide)] at H; exact H
                clear H
                have H := H1
                clear H1
                by_cases c25 : a0.toList = a1.toList
                · rw [if_pos c25] at H
                  have c25b0 : (a0.toList == a1.toList) = true := beq_iff_eq.mpr c25
                  have c25b1 : (a0.toList != a1.toList) = false := bne_eq_false_iff_eq.mpr c25
                  clear c25
                  obtain rfl := Option.some.inj H
                  go_wp2
                  go_ret
                  exact ⟨by first | rfl | (simp [errW_none, errW_some] <;> rfl) | (simp [*, errW_none, errW_some] <;> rfl), by repeat (first | (with_reducible first | exact HB.out | apply below_alloc | apply pw_below_drewN | apply below_drew1) | exact HB.out)⟩
                · rw [if_neg c25] at H
                  have c25b0 : (a0.toList == a1.toList) = false := beq_eq_false_iff_ne.mpr c25
                  have c25b1 : (a0.toList != a1.toList) = true := bne_iff_ne.mpr c25
                  replace H := Option.bind_eq_some_iff.mp H
                  obtain ⟨⟨t126, t127⟩, A260, H⟩ := H
                  replace H : ((hopmeshref01_Keyed.f a1 a2).bind fun bt128 => (if t119.toList = t121.toList then (some (t126.toList == bt128.1.toList)) else (some true))) = some r := H
                  have A26 := Aside0.mk A260
                  clear A260
                  replace H := Option.bind_eq_some_iff.mp H
                  obtain ⟨⟨t128, t129⟩, A270, H⟩ := H
                  replace H : (if t119.toList = t121.toList then (some (t126.toList == t128.toList)) else (some true)) = some r := H
                  have A27 := Aside0.mk A270
                  clear A270
                  by_cases c28 : t119.toList = t121.toList
                  · rw [if_pos c28] at H
                    have c28b0 : (t119.toList == t121.toList) = true := beq_iff_eq.mpr c28
                    have c28b1 : (t119.toList != t121.toList) = false := bne_eq_false_iff_eq.mpr c28
                    clear c28
                    obtain rfl := Option.some.inj H
                    go_wp2_with (first | ((with_reducible refine gate_callee (f := 15) rfl ?_); refine goesL_ (some 79) rfl rfl Try.func15 (by kernel_rfl) rfl #[.string a0, .string a2] rfl (by (try simp only [List.map_toArray, List.map_cons, List.map_nil]); first | done | rfl | (simp only [List.length_drop, List.length_take]; rfl)) ?_; (with_reducible refine (hopmeshref01_Keyed.calls a0 a2 t126 t127 _ A26.out).mono ?_); rintro e w29 ⟨rfl, hb⟩; refine ⟨_, rfl, ?_⟩; have n0_ := Aside0.mk (below_step (by repeat (first | (with_reducible first | exact HB.out | apply below_alloc | apply pw_below_drewN | apply below_drew1) | exact HB.out)) hb); clear HB; have HB := n0_; clear n0_; (try clear hb); (try clear hb2); (try clear hk); (try clear hi)) | ((with_reducible refine gate_callee (f := 15) rfl ?_); refine goesL_ (some 85) rfl rfl Try.func15 (by kernel_rfl) rfl #[.string a1, .string a2] rfl (by (try simp only [List.map_toArray, List.map_cons, List.map_nil]); first | done | rfl | (simp only [List.length_drop, List.length_take]; rfl)) ?_; (with_reducible refine (hopmeshref01_Keyed.calls a1 a2 t128 t129 _ A27.out).mono ?_); rintro e w30 ⟨rfl, hb⟩; refine ⟨_, rfl, ?_⟩; have n0_ := Aside0.mk (below_step (by repeat (first | (with_reducible first | exact HB.out | apply below_alloc | apply pw_below_drewN | apply below_drew1) | exact HB.out)) hb); clear HB; have HB := n0_; clear n0_; (try clear hb); (try clear hb2); (try clear hk); (try clear hi)))
                    go_ret
                    exact ⟨by first | rfl | (simp [errW_none, errW_some] <;> rfl) | (simp [*, errW_none, errW_some] <;> rfl), by repeat (first | (with_reducible first | exact HB.out | apply below_alloc | apply pw_below_drewN | apply below_drew1) | exact HB.out)⟩
                  · rw [if_neg c28] at H
                    have c28b0 : (t119.toList == t121.toList) = false := beq_eq_false_iff_ne.mpr c28
                    have c28b1 : (t119.toList != t121.toList) = true := bne_iff_ne.mpr c28
                    obtain rfl := Option.some.inj H
                    go_wp2_with (first | ((with_reducible refine gate_callee (f := 15) rfl ?_); refine goesL_ (some 79) rfl rfl Try.func15 (by kernel_rfl) rfl #[.string a0, .string a2] rfl (by (try simp only [List.map_toArray, List.map_cons, List.map_nil]); first | done | rfl | (simp only [List.length_drop, List.length_take]; rfl)) ?_; (with_reducible refine (hopmeshref01_Keyed.calls a0 a2 t126 t127 _ A26.out).mono ?_); rintro e w31 ⟨rfl, hb⟩; refine ⟨_, rfl, ?_⟩; have n0_ := Aside0.mk (below_step (by repeat (first | (with_reducible first | exact HB.out | apply below_alloc | apply pw_below_drewN | apply below_drew1) | exact HB.out)) hb); clear HB; have HB := n0_; clear n0_; (try clear hb); (try clear hb2); (try clear hk); (try clear hi)) | ((with_reducible refine gate_callee (f := 15) rfl ?_); refine goesL_ (some 85) rfl rfl Try.func15 (by kernel_rfl) rfl #[.string a1, .string a2] rfl (by (try simp only [List.map_toArray, List.map_cons, List.map_nil]); first | done | rfl | (simp only [List.length_drop, List.length_take]; rfl)) ?_; (with_reducible refine (hopmeshref01_Keyed.calls a1 a2 t128 t129 _ A27.out).mono ?_); rintro e w32 ⟨rfl, hb⟩; refine ⟨_, rfl, ?_⟩; have n0_ := Aside0.mk (below_step (by repeat (first | (with_reducible first | exact HB.out | apply below_alloc | apply pw_below_drewN | apply below_drew1) | exact HB.out)) hb); clear HB; have HB := n0_; clear n0_; (try clear hb); (try clear hb2); (try clear hk); (try clear hi)))
                    go_ret
                    exact ⟨by first | rfl | (simp [errW_none, errW_some] <;> rfl) | (simp [*, errW_none, errW_some] <;> rfl), by repeat (first | (with_reducible first | exact HB.out | apply below_alloc | apply pw_below_drewN | apply below_drew1) | exact HB.out)⟩
  · replace c5 := Bool.eq_false_iff.mpr c5
    subst c5
    have H1 : (some false) = some r := by rw [if_neg (show ¬ (false = true) by decide)] at H; exact H
    clear H
    have H := H1
    clear H1
    obtain rfl := Option.some.inj H
    go_enter Try.func9, Try.ntmps9
    go_wp2_with (first | ((with_reducible refine gate_callee (f := 11) rfl ?_); refine goesL_ (some 17) rfl rfl Try.func11 (by kernel_rfl) rfl #[] rfl (by (try simp only [List.map_toArray, List.map_cons, List.map_nil]); first | done | rfl | (simp only [List.length_drop, List.length_take]; rfl)) ?_; (with_reducible refine (hopmeshlaw01_awake.calls  false _ A4.out).mono ?_); rintro e w33 ⟨rfl, hb⟩; refine ⟨_, rfl, ?_⟩; have n0_ := Aside0.mk (below_step (by repeat (first | (with_reducible first | exact HB.out | apply below_alloc | apply pw_below_drewN | apply below_drew1) | exact HB.out)) hb); clear HB; have HB := n0_; clear n0_; (try clear hb); (try clear hb2); (try clear hk); (try clear hi)))
    go_ret
    exact ⟨by first | rfl | (simp [errW_none, errW_some] <;> rfl) | (simp [*, errW_none, errW_some] <;> rfl), by repeat (first | (with_reducible first | exact HB.out | apply below_alloc | apply pw_below_drewN | apply below_drew1) | exact HB.out)⟩

/-- THE ONE PURE STATEMENT of hopmeshlaw01_DigestKeys: yours. -/
def hopmeshlaw01_DigestKeys.Pure : Prop := ∀ (a0 : ByteArray) (a1 : ByteArray) (a2 : ByteArray), a0.size ≤ 140737488351232 → a1.size ≤ 140737488351232 → a2.size ≤ 140737488351232 → ∃ k, hopmeshlaw01_DigestKeys.f k a0 a1 a2 = some true
theorem hopmeshlaw01_DigestKeys.walk (P : hopmeshlaw01_DigestKeys.Pure) (a0 : ByteArray) (a1 : ByteArray) (a2 : ByteArray) (w : World) (w0 : a0.size ≤ 140737488351232) (w1 : a1.size ≤ 140737488351232) (w2 : a2.size ≤ 140737488351232) :
    Calls Try.prog 9 #[.string a0, .string a1, .string a2] w fun e w' => e = .returned (.bool true) ∧ Below w.heap.size w w' := by
  obtain ⟨k, h⟩ := P a0 a1 a2 w0 w1 w2
  refine (hopmeshlaw01_DigestKeys.calls k a0 a1 a2 true w h).mono ?_
  rintro e w' ⟨rfl, hd⟩
  exact ⟨rfl, hd⟩

end Go.Proofs.Ytkkoldfaplonaaa.Q
