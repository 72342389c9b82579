-- Printed by a program of this session's (wip/pr.py) with contracts of its own; not the kit's print.
import Derived.Test.YtnfcohpljgmaiaaQx0
import Derived.Test.YtnfcohpljgmaiaaQx1
import Derived.Test.YtnfcohpljgmaiaaQx2
import Derived.Test.YtnfcohpljgmaiaaQx3
namespace Go.Proofs.Ytnfcohpljgmaiaa.Q
open Go.RowKit Go.Proofs.YtnfcohpljgmaiaaW.PrintWords Go.Proofs.YtnfcohpljgmaiaaW.PrintLast Go.Proofs.YtnfcohpljgmaiaaW.PrintMore
attribute [local go_sem] max2_int min2_int max_two min_two max_three min_three max_four min_four   -- for this text's walks alone
set_option linter.unusedVariables false
set_option linter.unusedSimpArgs false

/-! ### hopmeshlaw46_ImageMakes: function 3 -/
def hopmeshlaw46_ImageMakes.j0 : Nat → Int → ByteArray → Int → Int → Bool → Option (Bool)
  | 0, _, _, _, _, _ => none
  | k + 1, x0, x1, x2, x3, x29 => if x29 = true then ((hopmeshlaw46_awake.f).bind fun t122 => (some t122)) else ((image_Make.f x0 x1 x2 x3).bind fun bt123 => ((hopmeshref46_Make.f k x0 x1 x2 x3).bind fun bt132 => ((hopmeshref46_Same.f k bt123.1 bt123.2.1 bt123.2.2.1 bt123.2.2.2.1 bt123.2.2.2.2.1 bt132.1 bt132.2.1 bt132.2.2.1 bt132.2.2.2.1 bt132.2.2.2.2.1).bind fun t141 => (if t141 = true then (some (bt123.2.2.2.2.2 == bt132.2.2.2.2.2)) else (some false)))))
def hopmeshlaw46_ImageMakes.f (k : Nat) (a0 : Int) (a1 : ByteArray) (a2 : Int) (a3 : Int) : Option (Bool) := (hopmeshlaw46_awake.f).bind fun t121 => (if t121 = true then (if (a1.size : Int) > 1000 then (if (a1.size : Int) < 65536 then (hopmeshlaw46_ImageMakes.j0 k a0 a1 a2 a3 true) else (hopmeshlaw46_ImageMakes.j0 k a0 a1 a2 a3 (decide ((a1.size : Int) > 65538)))) else (hopmeshlaw46_ImageMakes.j0 k a0 a1 a2 a3 (decide ((a1.size : Int) > 65538)))) else (hopmeshlaw46_ImageMakes.j0 k a0 a1 a2 a3 true))
theorem hopmeshlaw46_ImageMakes.mono_l : ∀ k, (∀ y0 y1 y2 y3 y4, LeO (hopmeshlaw46_ImageMakes.j0 k y0 y1 y2 y3 y4) (hopmeshlaw46_ImageMakes.j0 (k + 1) y0 y1 y2 y3 y4))
  | 0 => fun _ _ _ _ _ r h => by simp [hopmeshlaw46_ImageMakes.j0] at h
  | k + 1 => by
    have ih0 := hopmeshlaw46_ImageMakes.mono_l k
    · intro y0 y1 y2 y3 y4
      unfold hopmeshlaw46_ImageMakes.j0
      repeat' first
      | (with_reducible exact ih0 _ _ _ _ _)
      | (with_reducible exact hopmeshref46_Make.mono _ _ _ _ _)
      | (with_reducible exact hopmeshref46_Same.mono _ _ _ _ _ _ _ _ _ _ _)
      | (with_reducible exact LeO.refl _)
      | (with_reducible exact LeO.none _)
      | (with_reducible refine LeO.ite ?_ ?_)
      | (with_reducible refine LeO.bind ?_ (fun _ => ?_))
      | exact ih0 _ _ _ _ _
      | exact hopmeshref46_Make.mono _ _ _ _ _
      | exact hopmeshref46_Same.mono _ _ _ _ _ _ _ _ _ _ _
      | exact LeO.none _
      | refine LeO.ite ?_ ?_
      | refine LeO.bind ?_ (fun _ => ?_)
theorem hopmeshlaw46_ImageMakes.mono : ∀ a0 a1 a2 a3 k, LeO (hopmeshlaw46_ImageMakes.f k a0 a1 a2 a3) (hopmeshlaw46_ImageMakes.f (k + 1) a0 a1 a2 a3) := by
  intro a0 a1 a2 a3 k
  have ih0 := hopmeshlaw46_ImageMakes.mono_l k
  unfold hopmeshlaw46_ImageMakes.f
  repeat' first
      | (with_reducible exact ih0 _ _ _ _ _)
      | (with_reducible exact hopmeshref46_Make.mono _ _ _ _ _)
      | (with_reducible exact hopmeshref46_Same.mono _ _ _ _ _ _ _ _ _ _ _)
      | (with_reducible exact LeO.refl _)
      | (with_reducible exact LeO.none _)
      | (with_reducible refine LeO.ite ?_ ?_)
      | (with_reducible refine LeO.bind ?_ (fun _ => ?_))
      | exact ih0 _ _ _ _ _
      | exact hopmeshref46_Make.mono _ _ _ _ _
      | exact hopmeshref46_Same.mono _ _ _ _ _ _ _ _ _ _ _
      | exact LeO.none _
      | refine LeO.ite ?_ ?_
      | refine LeO.bind ?_ (fun _ => ?_)
set_option maxHeartbeats 8000000 in
set_option maxRecDepth 100000 in
theorem hopmeshlaw46_ImageMakes.calls (k : Nat) (a0 : Int) (a1 : ByteArray) (a2 : Int) (a3 : Int) (r : Bool) (w : World) (h : hopmeshlaw46_ImageMakes.f k a0 a1 a2 a3 = some r) :
    Calls Try.prog 3 #[.int .i64 a0, .string a1, .int .i64 a2, .int .i64 a3] w fun e w' => e = .returned (.bool r) ∧ Below w.heap.size w w' := by
  have hu25 := Try.underlying25
  have HB := Aside0.mk (Below.refl w.heap.size w)
  have H : ((hopmeshlaw46_awake.f).bind fun t121 => (if t121 = true then (if (a1.size : Int) > 1000 then (if (a1.size : Int) < 65536 then (hopmeshlaw46_ImageMakes.j0 k a0 a1 a2 a3 true) else (hopmeshlaw46_ImageMakes.j0 k a0 a1 a2 a3 (decide ((a1.size : Int) > 65538)))) else (hopmeshlaw46_ImageMakes.j0 k a0 a1 a2 a3 (decide ((a1.size : Int) > 65538)))) else (hopmeshlaw46_ImageMakes.j0 k a0 a1 a2 a3 true))) = some r := h
  clear h
  have HC5 := Aside0.mk H
  clear H
  go_enter Try.func3, Try.ntmps3
  go_upto_region 1 with (fail)
  go_cut [29] (fun v29 wc => ∃ (kq : Nat) (x29_4 : Bool), v29 = .bool x29_4 ∧ Aside0 (hopmeshlaw46_ImageMakes.j0 kq a0 a1 a2 a3 x29_4 = some r) ∧ Aside0 (kq ≤ k) ∧ Aside0 (Below w.heap.size w wc))
  case first =>
    have H := HC5.out
    clear HC5
    replace H := Option.bind_eq_some_iff.mp H
    obtain ⟨t121, A60, H⟩ := H
    replace H : (if t121 = true then (if (a1.size : Int) > 1000 then (if (a1.size : Int) < 65536 then (hopmeshlaw46_ImageMakes.j0 k a0 a1 a2 a3 true) else (hopmeshlaw46_ImageMakes.j0 k a0 a1 a2 a3 (decide ((a1.size : Int) > 65538)))) else (hopmeshlaw46_ImageMakes.j0 k a0 a1 a2 a3 (decide ((a1.size : Int) > 65538)))) else (hopmeshlaw46_ImageMakes.j0 k a0 a1 a2 a3 true)) = some r := H
    have A6 := Aside0.mk A60
    clear A60
    by_cases c7 : t121 = true
    · subst c7
      have H1 : (if (a1.size : Int) > 1000 then (if (a1.size : Int) < 65536 then (hopmeshlaw46_ImageMakes.j0 k a0 a1 a2 a3 true) else (hopmeshlaw46_ImageMakes.j0 k a0 a1 a2 a3 (decide ((a1.size : Int) > 65538)))) else (hopmeshlaw46_ImageMakes.j0 k a0 a1 a2 a3 (decide ((a1.size : Int) > 65538)))) = some r := by rw [if_pos rfl] at H; exact H
      clear H
      have H := H1
      clear H1
      by_cases c8 : (a1.size : Int) > 1000
      · rw [if_pos c8] at H
        have c8b0 : decide (1000 < (a1.size : Int)) = true := decide_eq_true c8
        have c8b1 : decide (1000 < a1.size) = true := decide_eq_true (by omega)
        clear c8
        (first | rw [c8b0] | (simp only [i64_w, i32_w]; rw [c8b0]) | skip)
        by_cases c9 : (a1.size : Int) < 65536
        · rw [if_pos c9] at H
          have c9b0 : decide ((a1.size : Int) < 65536) = true := decide_eq_true c9
          have c9b1 : decide (a1.size < 65536) = true := decide_eq_true (by omega)
          clear c9
          have H' := Aside0.mk H
          clear H
          go_wp2_with (first | ((with_reducible refine gate_callee (f := 11) rfl ?_); refine goesL_ (some 13) rfl rfl Try.func11 (by kernel_rfl) rfl #[] rfl (by (try simp only [List.map_toArray, List.map_cons, List.map_nil]); first | done | rfl | (simp only [List.length_drop, List.length_take]; rfl)) ?_; (with_reducible refine (hopmeshlaw46_awake.calls  true _ A6.out).mono ?_); rintro e w10 ⟨rfl, hb⟩; refine ⟨_, rfl, ?_⟩; have n0_ := Aside0.mk (below_step (by repeat (first | (with_reducible first | exact HB.out | apply below_alloc | apply pw_below_drewN | apply below_drew1) | exact HB.out)) hb); clear HB; have HB := n0_; clear n0_; (try clear hb); (try clear hb2); (try clear hk); (try clear hi)))
          go_meet
          case rel => exact ⟨_, (true), (by first | rfl | (simp; done) | (simp [*]; done)), H', ⟨by first | omega | exact Nat.le_refl _⟩, ⟨by repeat (first | (with_reducible first | exact HB.out | apply below_alloc | apply pw_below_drewN | apply below_drew1) | exact HB.out)⟩⟩
        · rw [if_neg c9] at H
          have c9b0 : decide ((a1.size : Int) < 65536) = false := decide_eq_false c9
          have c9b1 : decide (a1.size < 65536) = false := decide_eq_false (by omega)
          clear c9
          have H' := Aside0.mk H
          clear H
          go_wp2_with (first | ((with_reducible refine gate_callee (f := 11) rfl ?_); refine goesL_ (some 13) rfl rfl Try.func11 (by kernel_rfl) rfl #[] rfl (by (try simp only [List.map_toArray, List.map_cons, List.map_nil]); first | done | rfl | (simp only [List.length_drop, List.length_take]; rfl)) ?_; (with_reducible refine (hopmeshlaw46_awake.calls  true _ A6.out).mono ?_); rintro e w11 ⟨rfl, hb⟩; refine ⟨_, rfl, ?_⟩; have n0_ := Aside0.mk (below_step (by repeat (first | (with_reducible first | exact HB.out | apply below_alloc | apply pw_below_drewN | apply below_drew1) | exact HB.out)) hb); clear HB; have HB := n0_; clear n0_; (try clear hb); (try clear hb2); (try clear hk); (try clear hi)))
          go_meet
          case rel => exact ⟨_, (decide ((a1.size : Int) > 65538)), (by first | rfl | (simp; done) | (simp [*]; done)), H', ⟨by first | omega | exact Nat.le_refl _⟩, ⟨by repeat (first | (with_reducible first | exact HB.out | apply below_alloc | apply pw_below_drewN | apply below_drew1) | exact HB.out)⟩⟩
      · rw [if_neg c8] at H
        have c8b0 : decide (1000 < (a1.size : Int)) = false := decide_eq_false c8
        have c8b1 : decide (1000 < a1.size) = false := decide_eq_false (by omega)
        clear c8
        (first | rw [c8b0] | (simp only [i64_w, i32_w]; rw [c8b0]) | skip)
        have H' := Aside0.mk H
        clear H
        go_wp2_with (first | ((with_reducible refine gate_callee (f := 11) rfl ?_); refine goesL_ (some 13) rfl rfl Try.func11 (by kernel_rfl) rfl #[] rfl (by (try simp only [List.map_toArray, List.map_cons, List.map_nil]); first | done | rfl | (simp only [List.length_drop, List.length_take]; rfl)) ?_; (with_reducible refine (hopmeshlaw46_awake.calls  true _ A6.out).mono ?_); rintro e w12 ⟨rfl, hb⟩; refine ⟨_, rfl, ?_⟩; have n0_ := Aside0.mk (below_step (by repeat (first | (with_reducible first | exact HB.out | apply below_alloc | apply pw_below_drewN | apply below_drew1) | exact HB.out)) hb); clear HB; have HB := n0_; clear n0_; (try clear hb); (try clear hb2); (try clear hk); (try clear hi)))
        go_meet
        case rel => exact ⟨_, (decide ((a1.size : Int) > 65538)), (by first | rfl | (simp; done) | (simp [*]; done)), H', ⟨by first | omega | exact Nat.le_refl _⟩, ⟨by repeat (first | (with_reducible first | exact HB.out | apply below_alloc | apply pw_below_drewN | apply below_drew1) | exact HB.out)⟩⟩
    · replace c7 := Bool.eq_false_iff.mpr c7
      subst c7
      have H1 : (hopmeshlaw46_ImageMakes.j0 k a0 a1 a2 a3 true) = some r := by rw [if_neg (show ¬ (false = true) by decide)] at H; exact H
      clear H
      have H := H1
      clear H1
      have H' := Aside0.mk H
      clear H
      go_wp2_with (first | ((with_reducible refine gate_callee (f := 11) rfl ?_); refine goesL_ (some 13) rfl rfl Try.func11 (by kernel_rfl) rfl #[] rfl (by (try simp only [List.map_toArray, List.map_cons, List.map_nil]); first | done | rfl | (simp only [List.length_drop, List.length_take]; rfl)) ?_; (with_reducible refine (hopmeshlaw46_awake.calls  false _ A6.out).mono ?_); rintro e w13 ⟨rfl, hb⟩; refine ⟨_, rfl, ?_⟩; have n0_ := Aside0.mk (below_step (by repeat (first | (with_reducible first | exact HB.out | apply below_alloc | apply pw_below_drewN | apply below_drew1) | exact HB.out)) hb); clear HB; have HB := n0_; clear n0_; (try clear hb); (try clear hb2); (try clear hk); (try clear hi)))
      go_meet
      case rel => exact ⟨_, (true), (by first | rfl | (simp; done) | (simp [*]; done)), H', ⟨by first | omega | exact Nat.le_refl _⟩, ⟨by repeat (first | (with_reducible first | exact HB.out | apply below_alloc | apply pw_below_drewN | apply below_drew1) | exact HB.out)⟩⟩
  case rest =>
    clear HC5
    try clear c1
    try clear p2
    try clear c3
    try clear c7
    try clear c8
    try clear c8b0
    try clear c8b1
    try clear c9
    try clear c9b0
    try clear c9b1
    try clear c11
    obtain ⟨kq, x29_4, rfl, HA, HJ4, HB⟩ := hcut
    cases kq with
    | zero => exact absurd HA.out (by simp [hopmeshlaw46_ImageMakes.j0])
    | succ kj4 =>
      have H := HA.out
      clear HA
      simp only [hopmeshlaw46_ImageMakes.j0] at H
      by_cases c14 : x29_4 = true
      · subst c14
        have H1 : ((hopmeshlaw46_awake.f).bind fun t122 => (some t122)) = some r := by rw [if_pos rfl] at H; exact H
        clear H
        have H := H1
        clear H1
        replace H := Option.bind_eq_some_iff.mp H
        obtain ⟨t122, A150, H⟩ := H
        replace H : (some t122) = some r := H
        have A15 := Aside0.mk A150
        clear A150
        obtain rfl := Option.some.inj H
        go_wp2_with (first | ((with_reducible refine gate_callee (f := 11) rfl ?_); refine goesL_ (some 30) rfl rfl Try.func11 (by kernel_rfl) rfl #[] rfl (by (try simp only [List.map_toArray, List.map_cons, List.map_nil]); first | done | rfl | (simp only [List.length_drop, List.length_take]; rfl)) ?_; (with_reducible refine (hopmeshlaw46_awake.calls  t122 _ A15.out).mono ?_); rintro e w16 ⟨rfl, hb⟩; refine ⟨_, rfl, ?_⟩; have n0_ := Aside0.mk (below_step (by repeat (first | (with_reducible first | exact HB.out | apply below_alloc | apply pw_below_drewN | apply below_drew1) | exact HB.out)) hb); clear HB; have HB := n0_; clear n0_; (try clear hb); (try clear hb2); (try clear hk); (try clear hi)))
        go_ret
        exact ⟨by first | rfl | (simp [errW_none, errW_some] <;> rfl) | (simp [*, errW_none, errW_some] <;> rfl), by repeat (first | (with_reducible first | exact HB.out | apply below_alloc | apply pw_below_drewN | apply below_drew1) | exact HB.out)⟩
      · replace c14 := Bool.eq_false_iff.mpr c14
        subst c14
        have H1 : ((image_Make.f a0 a1 a2 a3).bind fun bt123 => ((hopmeshref46_Make.f kj4 a0 a1 a2 a3).bind fun bt132 => ((hopmeshref46_Same.f kj4 bt123.1 bt123.2.1 bt123.2.2.1 bt123.2.2.2.1 bt123.2.2.2.2.1 bt132.1 bt132.2.1 bt132.2.2.1 bt132.2.2.2.1 bt132.2.2.2.2.1).bind fun t141 => (if t141 = true then (some (bt123.2.2.2.2.2 == bt132.2.2.2.2.2)) else (some false))))) = some r := by rw [if_neg (show ¬ (false = true) by decide)] at H; exact H
        clear H
        have H := H1
        clear H1
        replace H := Option.bind_eq_some_iff.mp H
        obtain ⟨⟨t123, t124, t125, t126, t127, t130⟩, A170, H⟩ := H
        replace H : ((hopmeshref46_Make.f kj4 a0 a1 a2 a3).bind fun bt132 => ((hopmeshref46_Same.f kj4 t123 t124 t125 t126 t127 bt132.1 bt132.2.1 bt132.2.2.1 bt132.2.2.2.1 bt132.2.2.2.2.1).bind fun t141 => (if t141 = true then (some (t130 == bt132.2.2.2.2.2)) else (some false)))) = some r := H
        have A17 := Aside0.mk A170
        clear A170
        replace H := Option.bind_eq_some_iff.mp H
        obtain ⟨⟨t132, t133, t134, t135, t136, t139⟩, A180, H⟩ := H
        replace H : ((hopmeshref46_Same.f kj4 t123 t124 t125 t126 t127 t132 t133 t134 t135 t136).bind fun t141 => (if t141 = true then (some (t130 == t139)) else (some false))) = some r := H
        have A18 := Aside0.mk A180
        clear A180
        replace H := Option.bind_eq_some_iff.mp H
        obtain ⟨t141, A190, H⟩ := H
        replace H : (if t141 = true then (some (t130 == t139)) else (some false)) = some r := H
        have A19 := Aside0.mk A190
        clear A190
        by_cases c20 : t141 = true
        · subst c20
          have H1 : (some (t130 == t139)) = some r := by rw [if_pos rfl] at H; exact H
          clear H
          have H := H1
          clear H1
          obtain rfl := Option.some.inj H
          go_wp2_with (first | ((with_reducible refine gate_callee (f := 12) rfl ?_); refine goesL_ (some 36) rfl rfl Try.func12 (by kernel_rfl) rfl #[.int .i64 a0, .string a1, .int .i64 a2, .int .i64 a3] rfl (by (try simp only [List.map_toArray, List.map_cons, List.map_nil]); first | done | rfl | (simp only [List.length_drop, List.length_take]; rfl)) ?_; (with_reducible refine (image_Make.calls a0 a1 a2 a3 t123 t124 t125 t126 t127 t130 _ A17.out).mono ?_); rintro e w21 ⟨v128, rfl, ho0, hb⟩; refine ⟨_, rfl, ?_⟩; have n0_ := Aside0.mk (Kd.R_lower ho0 (below_size (by repeat (first | (with_reducible first | exact HB.out | apply below_alloc | apply pw_below_drewN | apply below_drew1) | exact HB.out)))); have n1_ := Aside0.mk (below_step (by repeat (first | (with_reducible first | exact HB.out | apply below_alloc | apply pw_below_drewN | apply below_drew1) | exact HB.out)) hb); clear HB; have HO129 := n0_; have HB := n1_; clear n0_ n1_; (try clear hb); (try clear hb2); (try clear hk); (try clear hi); (try clear ho0)) | ((with_reducible refine gate_dst (N := 9) rfl ?_); (try (refine gate_guard (by rfl) ?_; dsimp only)); refine box_event ?hg (N := 9) ?hd (cs := #[.int .i64 0, .int .i64 0, .int .i64 0, .int .i64 0, .slice none 0 0]) (t := 25) ?hr ?_; (case hd => rfl); (case hg => rfl); (case hr => first | (go_simp; done) | (go_simp; rfl)); intro gb131 hg w22 hbox hb; have n0_ := Aside0.mk (Kd.R_below (by (with_reducible repeat (first | apply Kd.R_alloc | apply Kd.R_drewN | apply Kd.R_drew)); exact HO129.out) hb); have n1_ := Aside0.mk (below_step (by repeat (first | (with_reducible first | exact HB.out | apply below_alloc | apply pw_below_drewN | apply below_drew1) | exact HB.out)) hb); have n2_ := Aside0.mk (hbox); have n3_ := Aside0.mk ((by rw [hg]; exact (below_size (by repeat (first | (with_reducible first | exact HB.out | apply below_alloc | apply pw_below_drewN | apply below_drew1) | exact HB.out))) : w.heap.size ≤ gb131)); have n4_ := Aside0.mk ((by rw [hg]; exact (below_size (by repeat (first | (with_reducible first | exact HB.out | apply below_alloc | apply pw_below_drewN | apply below_drew1) | exact HB.out))) : w.heap.size ≤ gb131)); clear HO129; clear HB; have HO129 := n0_; have HB := n1_; have BK131 := n2_; have GW131 := n3_; have GE131 := n4_; clear n0_ n1_ n2_ n3_ n4_; clear hb hbox hg; have hcz23_0 : w22.cell? ⟨gb131, 0, none⟩ = some (.int .i64 0) := (blk_cell BK131.out 0).trans rfl; have hcz23_1 : w22.cell? ⟨gb131, 1, none⟩ = some (.int .i64 0) := (blk_cell BK131.out 1).trans rfl; have hcz23_2 : w22.cell? ⟨gb131, 2, none⟩ = some (.int .i64 0) := (blk_cell BK131.out 2).trans rfl; have hcz23_3 : w22.cell? ⟨gb131, 3, none⟩ = some (.int .i64 0) := (blk_cell BK131.out 3).trans rfl; have hcz23_4 : w22.cell? ⟨gb131, 4, none⟩ = some (.slice none 0 0) := (blk_cell BK131.out 4).trans rfl; have hfz23_0 := blk_frozen BK131.out 0; have hfz23_1 := blk_frozen BK131.out 1; have hfz23_2 := blk_frozen BK131.out 2; have hfz23_3 := blk_frozen BK131.out 3; have hfz23_4 := blk_frozen BK131.out 4; obtain ⟨Ao24, co24, eo24⟩ := Kd.R_slice HO129.out; subst eo24) | ((with_reducible refine gate_callee (f := 13) rfl ?_); refine goesL_ (some 44) rfl rfl Try.func13 (by kernel_rfl) rfl #[.int .i64 a0, .string a1, .int .i64 a2, .int .i64 a3] rfl (by (try simp only [List.map_toArray, List.map_cons, List.map_nil]); first | done | rfl | (simp only [List.length_drop, List.length_take]; rfl)) ?_; (with_reducible refine (hopmeshref46_Make.calls kj4 a0 a1 a2 a3 t132 t133 t134 t135 t136 t139 _ A18.out).mono ?_); rintro e w25 ⟨v137, rfl, ho0, hb⟩; refine ⟨_, rfl, ?_⟩; have n0_ := Aside0.mk (Kd.R_elder' (by (with_reducible repeat (first | apply Kd.R_alloc | apply Kd.R_drewN | apply Kd.R_drew)); exact (Kd.R_mono (Kd.R_far (p := ⟨gb131, 4, none⟩) (Kd.R_far (p := ⟨gb131, 3, none⟩) (Kd.R_far (p := ⟨gb131, 2, none⟩) (Kd.R_far (p := ⟨gb131, 1, none⟩) (Kd.R_far (p := ⟨gb131, 0, none⟩) (Kd.R_types HO129.out BK131.out (by decide)) (fun _ hk => hk.2) (.int .i64 t123)) (fun _ hk => hk.2) (.int .i64 t124)) (fun _ hk => hk.2) (.int .i64 t125)) (fun _ hk => hk.2) (.int .i64 t126)) (fun _ hk => hk.2) (.slice Ao24 t127.length co24)) (fun _ h_ => h_.1))) (Kd.R_base ho0) hb); have n1_ := Aside0.mk (Kd.R_lower (Kd.R_new' ho0 (Kd.R_lt (by (with_reducible repeat (first | apply Kd.R_alloc | apply Kd.R_drewN | apply Kd.R_drew)); exact (Kd.R_mono (Kd.R_far (p := ⟨gb131, 4, none⟩) (Kd.R_far (p := ⟨gb131, 3, none⟩) (Kd.R_far (p := ⟨gb131, 2, none⟩) (Kd.R_far (p := ⟨gb131, 1, none⟩) (Kd.R_far (p := ⟨gb131, 0, none⟩) (Kd.R_types HO129.out BK131.out (by decide)) (fun _ hk => hk.2) (.int .i64 t123)) (fun _ hk => hk.2) (.int .i64 t124)) (fun _ hk => hk.2) (.int .i64 t125)) (fun _ hk => hk.2) (.int .i64 t126)) (fun _ hk => hk.2) (.slice Ao24 t127.length co24)) (fun _ h_ => h_.1))))) (below_size (by repeat (first | (with_reducible first | exact HB.out | apply below_alloc | apply pw_below_drewN | apply below_drew1 | refine below_set ?_ GE131.out) | exact HB.out)))); have n2_ := Aside0.mk (blk_below (g := gb131) (o := .cells #[.int .i64 t123, .int .i64 t124, .int .i64 t125, .int .i64 t126, .slice Ao24 t127.length co24] 25 (0, 0)) (by (with_reducible repeat (first | refine blk_drewN ?_ _ | refine blk_drew ?_ | refine blk_alloc ?_ _)); refine blk_put (cs := #[.int .i64 t123, .int .i64 t124, .int .i64 t125, .int .i64 t126, .slice none 0 0]) ?_ 4 _ rfl; (with_reducible repeat (first | refine blk_drewN ?_ _ | refine blk_drew ?_ | refine blk_alloc ?_ _)); refine blk_put (cs := #[.int .i64 t123, .int .i64 t124, .int .i64 t125, .int .i64 0, .slice none 0 0]) ?_ 3 _ rfl; (with_reducible repeat (first | refine blk_drewN ?_ _ | refine blk_drew ?_ | refine blk_alloc ?_ _)); refine blk_put (cs := #[.int .i64 t123, .int .i64 t124, .int .i64 0, .int .i64 0, .slice none 0 0]) ?_ 2 _ rfl; (with_reducible repeat (first | refine blk_drewN ?_ _ | refine blk_drew ?_ | refine blk_alloc ?_ _)); refine blk_put (cs := #[.int .i64 t123, .int .i64 0, .int .i64 0, .int .i64 0, .slice none 0 0]) ?_ 1 _ rfl; (with_reducible repeat (first | refine blk_drewN ?_ _ | refine blk_drew ?_ | refine blk_alloc ?_ _)); refine blk_put (cs := #[.int .i64 0, .int .i64 0, .int .i64 0, .int .i64 0, .slice none 0 0]) ?_ 0 _ rfl; (with_reducible repeat (first | refine blk_drewN ?_ _ | refine blk_drew ?_ | refine blk_alloc ?_ _)); exact BK131.out) hb); have n3_ := Aside0.mk (below_step (by repeat (first | (with_reducible first | exact HB.out | apply below_alloc | apply pw_below_drewN | apply below_drew1 | refine below_set ?_ GE131.out) | exact HB.out)) hb); clear HO129; clear BK131; clear HB; have HO129 := n0_; have HO138 := n1_; have BK131 := n2_; have HB := n3_; clear n0_ n1_ n2_ n3_; (try clear hb); (try clear hb2); (try clear hk); (try clear hi); (try clear ho0)) | ((with_reducible refine gate_dst (N := 11) rfl ?_); (try (refine gate_guard (by rfl) ?_; dsimp only)); refine box_event ?hg (N := 11) ?hd (cs := #[.int .i64 0, .int .i64 0, .int .i64 0, .int .i64 0, .slice none 0 0]) (t := 25) ?hr ?_; (case hd => rfl); (case hg => rfl); (case hr => first | (go_simp; done) | (go_simp; rfl)); intro gb140 hg w26 hbox hb; have n0_ := Aside0.mk (Kd.R_below (by (with_reducible repeat (first | apply Kd.R_alloc | apply Kd.R_drewN | apply Kd.R_drew)); exact HO129.out) hb); have n1_ := Aside0.mk (Kd.R_below (by (with_reducible repeat (first | apply Kd.R_alloc | apply Kd.R_drewN | apply Kd.R_drew)); exact HO138.out) hb); have n2_ := Aside0.mk (blk_below (g := gb131) (o := .cells #[.int .i64 t123, .int .i64 t124, .int .i64 t125, .int .i64 t126, .slice Ao24 t127.length co24] 25 (0, 0)) (by (with_reducible repeat (first | refine blk_drewN ?_ _ | refine blk_drew ?_ | refine blk_alloc ?_ _)); exact BK131.out) hb); have n3_ := Aside0.mk (below_step (by repeat (first | (with_reducible first | exact HB.out | apply below_alloc | apply pw_below_drewN | apply below_drew1 | refine below_set ?_ GE131.out) | exact HB.out)) hb); have n4_ := Aside0.mk (hbox); have n5_ := Aside0.mk ((by rw [hg]; exact (below_size (by repeat (first | (with_reducible first | exact HB.out | apply below_alloc | apply pw_below_drewN | apply below_drew1 | refine below_set ?_ GE131.out) | exact HB.out))) : w.heap.size ≤ gb140)); have n6_ := Aside0.mk ((by rw [hg]; exact (below_size (by repeat (first | (with_reducible first | exact HB.out | apply below_alloc | apply pw_below_drewN | apply below_drew1 | refine below_set ?_ GE131.out) | exact HB.out))) : w.heap.size ≤ gb140)); have n7_ := Aside0.mk ((by rw [hg]; exact Nat.ne_of_lt (blk_lt (g := gb131) (o := .cells #[.int .i64 t123, .int .i64 t124, .int .i64 t125, .int .i64 t126, .slice Ao24 t127.length co24] 25 (0, 0)) (by (with_reducible repeat (first | refine blk_drewN ?_ _ | refine blk_drew ?_ | refine blk_alloc ?_ _)); exact BK131.out)) : gb131 ≠ gb140)); have n8_ := Aside0.mk ((by rw [hg]; exact Nat.ne_of_gt (blk_lt (g := gb131) (o := .cells #[.int .i64 t123, .int .i64 t124, .int .i64 t125, .int .i64 t126, .slice Ao24 t127.length co24] 25 (0, 0)) (by (with_reducible repeat (first | refine blk_drewN ?_ _ | refine blk_drew ?_ | refine blk_alloc ?_ _)); exact BK131.out)) : gb140 ≠ gb131)); clear HO129; clear HO138; clear BK131; clear HB; have HO129 := n0_; have HO138 := n1_; have BK131 := n2_; have HB := n3_; have BK140 := n4_; have GW140 := n5_; have GE140 := n6_; have NB131_140 := n7_; have NB140_131 := n8_; clear n0_ n1_ n2_ n3_ n4_ n5_ n6_ n7_ n8_; clear hb hbox hg; have hnb27 := NB140_131.out; have hnc27 := NB131_140.out; have hcz28_0 : w26.cell? ⟨gb140, 0, none⟩ = some (.int .i64 0) := (blk_cell BK140.out 0).trans rfl; have hcz28_1 : w26.cell? ⟨gb140, 1, none⟩ = some (.int .i64 0) := (blk_cell BK140.out 1).trans rfl; have hcz28_2 : w26.cell? ⟨gb140, 2, none⟩ = some (.int .i64 0) := (blk_cell BK140.out 2).trans rfl; have hcz28_3 : w26.cell? ⟨gb140, 3, none⟩ = some (.int .i64 0) := (blk_cell BK140.out 3).trans rfl; have hcz28_4 : w26.cell? ⟨gb140, 4, none⟩ = some (.slice none 0 0) := (blk_cell BK140.out 4).trans rfl; have hfz28_0 := blk_frozen BK140.out 0; have hfz28_1 := blk_frozen BK140.out 1; have hfz28_2 := blk_frozen BK140.out 2; have hfz28_3 := blk_frozen BK140.out 3; have hfz28_4 := blk_frozen BK140.out 4; obtain ⟨Ao29, co29, eo29⟩ := Kd.R_slice HO138.out; subst eo29; have hcz30_0 : w26.cell? ⟨gb131, 0, none⟩ = some (.int .i64 t123) := (blk_cell BK131.out 0).trans rfl; have hcz30_1 : w26.cell? ⟨gb131, 1, none⟩ = some (.int .i64 t124) := (blk_cell BK131.out 1).trans rfl; have hcz30_2 : w26.cell? ⟨gb131, 2, none⟩ = some (.int .i64 t125) := (blk_cell BK131.out 2).trans rfl; have hcz30_3 : w26.cell? ⟨gb131, 3, none⟩ = some (.int .i64 t126) := (blk_cell BK131.out 3).trans rfl; have hcz30_4 : w26.cell? ⟨gb131, 4, none⟩ = some (.slice Ao24 t127.length co24) := (blk_cell BK131.out 4).trans rfl; have hfz30_0 := blk_frozen BK131.out 0; have hfz30_1 := blk_frozen BK131.out 1; have hfz30_2 := blk_frozen BK131.out 2; have hfz30_3 := blk_frozen BK131.out 3; have hfz30_4 := blk_frozen BK131.out 4) | ((with_reducible refine gate_callee (f := 14) rfl ?_); refine goesL_ (some 49) rfl rfl Try.func14 (by kernel_rfl) rfl #[.agg #[.int .i64 t123, .int .i64 t124, .int .i64 t125, .int .i64 t126, .slice Ao24 t127.length co24], .agg #[.int .i64 t132, .int .i64 t133, .int .i64 t134, .int .i64 t135, .slice Ao29 t136.length co29]] rfl (by (try simp only [List.map_toArray, List.map_cons, List.map_nil]); first | done | rfl | (simp only [List.length_drop, List.length_take]; rfl)) ?_; (with_reducible refine (hopmeshref46_Same.calls kj4 t123 t124 t125 t126 _ _ t127 t132 t133 t134 t135 _ _ t136 true _ ?side1 ?side2 ?side3 ?side4 A19.out).mono ?_); (case side1 => refine (Kd.R_reads' (e := 9) (base := w.heap.size) (ok := fun k_ => (True ∧ some k_ ≠ (.slice Ao29 t136.length co29 : Value).ownBlock)) (n := t127.length) (c := co24) ?_).2.2; exact (by (with_reducible repeat (first | apply Kd.R_alloc | apply Kd.R_drewN | apply Kd.R_drew)); exact (Kd.R_mono (Kd.R_far (p := ⟨gb140, 4, none⟩) (Kd.R_far (p := ⟨gb140, 3, none⟩) (Kd.R_far (p := ⟨gb140, 2, none⟩) (Kd.R_far (p := ⟨gb140, 1, none⟩) (Kd.R_far (p := ⟨gb140, 0, none⟩) (Kd.R_types HO129.out BK140.out (by decide)) (fun _ hk => hk.2) (.int .i64 t132)) (fun _ hk => hk.2) (.int .i64 t133)) (fun _ hk => hk.2) (.int .i64 t134)) (fun _ hk => hk.2) (.int .i64 t135)) (fun _ hk => hk.2) (.slice Ao29 t136.length co29)) (fun _ h_ => h_.1)))); (case side2 => exact (Kd.R_reads' HO129.out).2.1); (case side3 => refine (Kd.R_reads' (e := 9) (base := w.heap.size) (ok := fun k_ => (True ∧ some k_ ≠ (.slice Ao24 t127.length co24 : Value).ownBlock)) (n := t136.length) (c := co29) ?_).2.2; exact (by (with_reducible repeat (first | apply Kd.R_alloc | apply Kd.R_drewN | apply Kd.R_drew)); exact (Kd.R_mono (Kd.R_far (p := ⟨gb140, 4, none⟩) (Kd.R_far (p := ⟨gb140, 3, none⟩) (Kd.R_far (p := ⟨gb140, 2, none⟩) (Kd.R_far (p := ⟨gb140, 1, none⟩) (Kd.R_far (p := ⟨gb140, 0, none⟩) (Kd.R_types HO138.out BK140.out (by decide)) (fun _ hk => hk.2) (.int .i64 t132)) (fun _ hk => hk.2) (.int .i64 t133)) (fun _ hk => hk.2) (.int .i64 t134)) (fun _ hk => hk.2) (.int .i64 t135)) (fun _ hk => hk.2) (.slice Ao29 t136.length co29)) (fun _ h_ => h_.1)))); (case side4 => exact (Kd.R_reads' HO138.out).2.1); rintro e w31 ⟨rfl, hb⟩; refine ⟨_, rfl, ?_⟩; have n0_ := Aside0.mk (Kd.R_below (by (with_reducible repeat (first | apply Kd.R_alloc | apply Kd.R_drewN | apply Kd.R_drew)); exact (Kd.R_mono (Kd.R_far (p := ⟨gb140, 4, none⟩) (Kd.R_far (p := ⟨gb140, 3, none⟩) (Kd.R_far (p := ⟨gb140, 2, none⟩) (Kd.R_far (p := ⟨gb140, 1, none⟩) (Kd.R_far (p := ⟨gb140, 0, none⟩) (Kd.R_types HO129.out BK140.out (by decide)) (fun _ hk => hk.2) (.int .i64 t132)) (fun _ hk => hk.2) (.int .i64 t133)) (fun _ hk => hk.2) (.int .i64 t134)) (fun _ hk => hk.2) (.int .i64 t135)) (fun _ hk => hk.2) (.slice Ao29 t136.length co29)) (fun _ h_ => h_.1))) hb); have n1_ := Aside0.mk (Kd.R_below (by (with_reducible repeat (first | apply Kd.R_alloc | apply Kd.R_drewN | apply Kd.R_drew)); exact (Kd.R_mono (Kd.R_far (p := ⟨gb140, 4, none⟩) (Kd.R_far (p := ⟨gb140, 3, none⟩) (Kd.R_far (p := ⟨gb140, 2, none⟩) (Kd.R_far (p := ⟨gb140, 1, none⟩) (Kd.R_far (p := ⟨gb140, 0, none⟩) (Kd.R_types HO138.out BK140.out (by decide)) (fun _ hk => hk.2) (.int .i64 t132)) (fun _ hk => hk.2) (.int .i64 t133)) (fun _ hk => hk.2) (.int .i64 t134)) (fun _ hk => hk.2) (.int .i64 t135)) (fun _ hk => hk.2) (.slice Ao29 t136.length co29)) (fun _ h_ => h_.1))) hb); have n2_ := Aside0.mk (blk_below (g := gb131) (o := .cells #[.int .i64 t123, .int .i64 t124, .int .i64 t125, .int .i64 t126, .slice Ao24 t127.length co24] 25 (0, 0)) (by (with_reducible repeat (first | refine blk_drewN ?_ _ | refine blk_drew ?_ | refine blk_alloc ?_ _)); refine blk_far ?_ NB131_140.out _; (with_reducible repeat (first | refine blk_drewN ?_ _ | refine blk_drew ?_ | refine blk_alloc ?_ _)); refine blk_far ?_ NB131_140.out _; (with_reducible repeat (first | refine blk_drewN ?_ _ | refine blk_drew ?_ | refine blk_alloc ?_ _)); refine blk_far ?_ NB131_140.out _; (with_reducible repeat (first | refine blk_drewN ?_ _ | refine blk_drew ?_ | refine blk_alloc ?_ _)); refine blk_far ?_ NB131_140.out _; (with_reducible repeat (first | refine blk_drewN ?_ _ | refine blk_drew ?_ | refine blk_alloc ?_ _)); refine blk_far ?_ NB131_140.out _; (with_reducible repeat (first | refine blk_drewN ?_ _ | refine blk_drew ?_ | refine blk_alloc ?_ _)); exact BK131.out) hb); have n3_ := Aside0.mk (blk_below (g := gb140) (o := .cells #[.int .i64 t132, .int .i64 t133, .int .i64 t134, .int .i64 t135, .slice Ao29 t136.length co29] 25 (0, 0)) (by (with_reducible repeat (first | refine blk_drewN ?_ _ | refine blk_drew ?_ | refine blk_alloc ?_ _)); refine blk_put (cs := #[.int .i64 t132, .int .i64 t133, .int .i64 t134, .int .i64 t135, .slice none 0 0]) ?_ 4 _ rfl; (with_reducible repeat (first | refine blk_drewN ?_ _ | refine blk_drew ?_ | refine blk_alloc ?_ _)); refine blk_put (cs := #[.int .i64 t132, .int .i64 t133, .int .i64 t134, .int .i64 0, .slice none 0 0]) ?_ 3 _ rfl; (with_reducible repeat (first | refine blk_drewN ?_ _ | refine blk_drew ?_ | refine blk_alloc ?_ _)); refine blk_put (cs := #[.int .i64 t132, .int .i64 t133, .int .i64 0, .int .i64 0, .slice none 0 0]) ?_ 2 _ rfl; (with_reducible repeat (first | refine blk_drewN ?_ _ | refine blk_drew ?_ | refine blk_alloc ?_ _)); refine blk_put (cs := #[.int .i64 t132, .int .i64 0, .int .i64 0, .int .i64 0, .slice none 0 0]) ?_ 1 _ rfl; (with_reducible repeat (first | refine blk_drewN ?_ _ | refine blk_drew ?_ | refine blk_alloc ?_ _)); refine blk_put (cs := #[.int .i64 0, .int .i64 0, .int .i64 0, .int .i64 0, .slice none 0 0]) ?_ 0 _ rfl; (with_reducible repeat (first | refine blk_drewN ?_ _ | refine blk_drew ?_ | refine blk_alloc ?_ _)); exact BK140.out) hb); have n4_ := Aside0.mk (below_step (by repeat (first | (with_reducible first | exact HB.out | apply below_alloc | apply pw_below_drewN | apply below_drew1 | refine below_set ?_ GE131.out | refine below_set ?_ GE140.out) | exact HB.out)) hb); clear HO129; clear HO138; clear BK131; clear BK140; clear HB; have HO129 := n0_; have HO138 := n1_; have BK131 := n2_; have BK140 := n3_; have HB := n4_; clear n0_ n1_ n2_ n3_ n4_; (try clear hb); (try clear hb2); (try clear hk); (try clear hi)))
          go_ret
          exact ⟨by first | rfl | (simp [errW_none, errW_some] <;> rfl) | (simp [*, errW_none, errW_some] <;> rfl), by repeat (first | (with_reducible first | exact HB.out | apply below_alloc | apply pw_below_drewN | apply below_drew1 | refine below_set ?_ GE131.out | refine below_set ?_ GE140.out) | exact HB.out)⟩
        · replace c20 := Bool.eq_false_iff.mpr c20
          subst c20
          have H1 : (some false) = some r := by rw [if_neg (show ¬ (false = true) by decide)] at H; exact H
          clear H
          have H := H1
          clear H1
          obtain rfl := Option.some.inj H
          go_wp2_with (first | ((with_reducible refine gate_callee (f := 12) rfl ?_); refine goesL_ (some 36) rfl rfl Try.func12 (by kernel_rfl) rfl #[.int .i64 a0, .string a1, .int .i64 a2, .int .i64 a3] rfl (by (try simp only [List.map_toArray, List.map_cons, List.map_nil]); first | done | rfl | (simp only [List.length_drop, List.length_take]; rfl)) ?_; (with_reducible refine (image_Make.calls a0 a1 a2 a3 t123 t124 t125 t126 t127 t130 _ A17.out).mono ?_); rintro e w32 ⟨v128, rfl, ho0, hb⟩; refine ⟨_, rfl, ?_⟩; have n0_ := Aside0.mk (Kd.R_lower ho0 (below_size (by repeat (first | (with_reducible first | exact HB.out | apply below_alloc | apply pw_below_drewN | apply below_drew1) | exact HB.out)))); have n1_ := Aside0.mk (below_step (by repeat (first | (with_reducible first | exact HB.out | apply below_alloc | apply pw_below_drewN | apply below_drew1) | exact HB.out)) hb); clear HB; have HO129 := n0_; have HB := n1_; clear n0_ n1_; (try clear hb); (try clear hb2); (try clear hk); (try clear hi); (try clear ho0)) | ((with_reducible refine gate_dst (N := 9) rfl ?_); (try (refine gate_guard (by rfl) ?_; dsimp only)); refine box_event ?hg (N := 9) ?hd (cs := #[.int .i64 0, .int .i64 0, .int .i64 0, .int .i64 0, .slice none 0 0]) (t := 25) ?hr ?_; (case hd => rfl); (case hg => rfl); (case hr => first | (go_simp; done) | (go_simp; rfl)); intro gb131 hg w33 hbox hb; have n0_ := Aside0.mk (Kd.R_below (by (with_reducible repeat (first | apply Kd.R_alloc | apply Kd.R_drewN | apply Kd.R_drew)); exact HO129.out) hb); have n1_ := Aside0.mk (below_step (by repeat (first | (with_reducible first | exact HB.out | apply below_alloc | apply pw_below_drewN | apply below_drew1) | exact HB.out)) hb); have n2_ := Aside0.mk (hbox); have n3_ := Aside0.mk ((by rw [hg]; exact (below_size (by repeat (first | (with_reducible first | exact HB.out | apply below_alloc | apply pw_below_drewN | apply below_drew1) | exact HB.out))) : w.heap.size ≤ gb131)); have n4_ := Aside0.mk ((by rw [hg]; exact (below_size (by repeat (first | (with_reducible first | exact HB.out | apply below_alloc | apply pw_below_drewN | apply below_drew1) | exact HB.out))) : w.heap.size ≤ gb131)); clear HO129; clear HB; have HO129 := n0_; have HB := n1_; have BK131 := n2_; have GW131 := n3_; have GE131 := n4_; clear n0_ n1_ n2_ n3_ n4_; clear hb hbox hg; have hcz34_0 : w33.cell? ⟨gb131, 0, none⟩ = some (.int .i64 0) := (blk_cell BK131.out 0).trans rfl; have hcz34_1 : w33.cell? ⟨gb131, 1, none⟩ = some (.int .i64 0) := (blk_cell BK131.out 1).trans rfl; have hcz34_2 : w33.cell? ⟨gb131, 2, none⟩ = some (.int .i64 0) := (blk_cell BK131.out 2).trans rfl; have hcz34_3 : w33.cell? ⟨gb131, 3, none⟩ = some (.int .i64 0) := (blk_cell BK131.out 3).trans rfl; have hcz34_4 : w33.cell? ⟨gb131, 4, none⟩ = some (.slice none 0 0) := (blk_cell BK131.out 4).trans rfl; have hfz34_0 := blk_frozen BK131.out 0; have hfz34_1 := blk_frozen BK131.out 1; have hfz34_2 := blk_frozen BK131.out 2; have hfz34_3 := blk_frozen BK131.out 3; have hfz34_4 := blk_frozen BK131.out 4; obtain ⟨Ao35, co35, eo35⟩ := Kd.R_slice HO129.out; subst eo35) | ((with_reducible refine gate_callee (f := 13) rfl ?_); refine goesL_ (some 44) rfl rfl Try.func13 (by kernel_rfl) rfl #[.int .i64 a0, .string a1, .int .i64 a2, .int .i64 a3] rfl (by (try simp only [List.map_toArray, List.map_cons, List.map_nil]); first | done | rfl | (simp only [List.length_drop, List.length_take]; rfl)) ?_; (with_reducible refine (hopmeshref46_Make.calls kj4 a0 a1 a2 a3 t132 t133 t134 t135 t136 t139 _ A18.out).mono ?_); rintro e w36 ⟨v137, rfl, ho0, hb⟩; refine ⟨_, rfl, ?_⟩; have n0_ := Aside0.mk (Kd.R_elder' (by (with_reducible repeat (first | apply Kd.R_alloc | apply Kd.R_drewN | apply Kd.R_drew)); exact (Kd.R_mono (Kd.R_far (p := ⟨gb131, 4, none⟩) (Kd.R_far (p := ⟨gb131, 3, none⟩) (Kd.R_far (p := ⟨gb131, 2, none⟩) (Kd.R_far (p := ⟨gb131, 1, none⟩) (Kd.R_far (p := ⟨gb131, 0, none⟩) (Kd.R_types HO129.out BK131.out (by decide)) (fun _ hk => hk.2) (.int .i64 t123)) (fun _ hk => hk.2) (.int .i64 t124)) (fun _ hk => hk.2) (.int .i64 t125)) (fun _ hk => hk.2) (.int .i64 t126)) (fun _ hk => hk.2) (.slice Ao35 t127.length co35)) (fun _ h_ => h_.1))) (Kd.R_base ho0) hb); have n1_ := Aside0.mk (Kd.R_lower (Kd.R_new' ho0 (Kd.R_lt (by (with_reducible repeat (first | apply Kd.R_alloc | apply Kd.R_drewN | apply Kd.R_drew)); exact (Kd.R_mono (Kd.R_far (p := ⟨gb131, 4, none⟩) (Kd.R_far (p := ⟨gb131, 3, none⟩) (Kd.R_far (p := ⟨gb131, 2, none⟩) (Kd.R_far (p := ⟨gb131, 1, none⟩) (Kd.R_far (p := ⟨gb131, 0, none⟩) (Kd.R_types HO129.out BK131.out (by decide)) (fun _ hk => hk.2) (.int .i64 t123)) (fun _ hk => hk.2) (.int .i64 t124)) (fun _ hk => hk.2) (.int .i64 t125)) (fun _ hk => hk.2) (.int .i64 t126)) (fun _ hk => hk.2) (.slice Ao35 t127.length co35)) (fun _ h_ => h_.1))))) (below_size (by repeat (first | (with_reducible first | exact HB.out | apply below_alloc | apply pw_below_drewN | apply below_drew1 | refine below_set ?_ GE131.out) | exact HB.out)))); have n2_ := Aside0.mk (blk_below (g := gb131) (o := .cells #[.int .i64 t123, .int .i64 t124, .int .i64 t125, .int .i64 t126, .slice Ao35 t127.length co35] 25 (0, 0)) (by (with_reducible repeat (first | refine blk_drewN ?_ _ | refine blk_drew ?_ | refine blk_alloc ?_ _)); refine blk_put (cs := #[.int .i64 t123, .int .i64 t124, .int .i64 t125, .int .i64 t126, .slice none 0 0]) ?_ 4 _ rfl; (with_reducible repeat (first | refine blk_drewN ?_ _ | refine blk_drew ?_ | refine blk_alloc ?_ _)); refine blk_put (cs := #[.int .i64 t123, .int .i64 t124, .int .i64 t125, .int .i64 0, .slice none 0 0]) ?_ 3 _ rfl; (with_reducible repeat (first | refine blk_drewN ?_ _ | refine blk_drew ?_ | refine blk_alloc ?_ _)); refine blk_put (cs := #[.int .i64 t123, .int .i64 t124, .int .i64 0, .int .i64 0, .slice none 0 0]) ?_ 2 _ rfl; (with_reducible repeat (first | refine blk_drewN ?_ _ | refine blk_drew ?_ | refine blk_alloc ?_ _)); refine blk_put (cs := #[.int .i64 t123, .int .i64 0, .int .i64 0, .int .i64 0, .slice none 0 0]) ?_ 1 _ rfl; (with_reducible repeat (first | refine blk_drewN ?_ _ | refine blk_drew ?_ | refine blk_alloc ?_ _)); refine blk_put (cs := #[.int .i64 0, .int .i64 0, .int .i64 0, .int .i64 0, .slice none 0 0]) ?_ 0 _ rfl; (with_reducible repeat (first | refine blk_drewN ?_ _ | refine blk_drew ?_ | refine blk_alloc ?_ _)); exact BK131.out) hb); have n3_ := Aside0.mk (below_step (by repeat (first | (with_reducible first | exact HB.out | apply below_alloc | apply pw_below_drewN | apply below_drew1 | refine below_set ?_ GE131.out) | exact HB.out)) hb); clear HO129; clear BK131; clear HB; have HO129 := n0_; have HO138 := n1_; have BK131 := n2_; have HB := n3_; clear n0_ n1_ n2_ n3_; (try clear hb); (try clear hb2); (try clear hk); (try clear hi); (try clear ho0)) | ((with_reducible refine gate_dst (N := 11) rfl ?_); (try (refine gate_guard (by rfl) ?_; dsimp only)); refine box_event ?hg (N := 11) ?hd (cs := #[.int .i64 0, .int .i64 0, .int .i64 0, .int .i64 0, .slice none 0 0]) (t := 25) ?hr ?_; (case hd => rfl); (case hg => rfl); (case hr => first | (go_simp; done) | (go_simp; rfl)); intro gb140 hg w37 hbox hb; have n0_ := Aside0.mk (Kd.R_below (by (with_reducible repeat (first | apply Kd.R_alloc | apply Kd.R_drewN | apply Kd.R_drew)); exact HO129.out) hb); have n1_ := Aside0.mk (Kd.R_below (by (with_reducible repeat (first | apply Kd.R_alloc | apply Kd.R_drewN | apply Kd.R_drew)); exact HO138.out) hb); have n2_ := Aside0.mk (blk_below (g := gb131) (o := .cells #[.int .i64 t123, .int .i64 t124, .int .i64 t125, .int .i64 t126, .slice Ao35 t127.length co35] 25 (0, 0)) (by (with_reducible repeat (first | refine blk_drewN ?_ _ | refine blk_drew ?_ | refine blk_alloc ?_ _)); exact BK131.out) hb); have n3_ := Aside0.mk (below_step (by repeat (first | (with_reducible first | exact HB.out | apply below_alloc | apply pw_below_drewN | apply below_drew1 | refine below_set ?_ GE131.out) | exact HB.out)) hb); have n4_ := Aside0.mk (hbox); have n5_ := Aside0.mk ((by rw [hg]; exact (below_size (by repeat (first | (with_reducible first | exact HB.out | apply below_alloc | apply pw_below_drewN | apply below_drew1 | refine below_set ?_ GE131.out) | exact HB.out))) : w.heap.size ≤ gb140)); have n6_ := Aside0.mk ((by rw [hg]; exact (below_size (by repeat (first | (with_reducible first | exact HB.out | apply below_alloc | apply pw_below_drewN | apply below_drew1 | refine below_set ?_ GE131.out) | exact HB.out))) : w.heap.size ≤ gb140)); have n7_ := Aside0.mk ((by rw [hg]; exact Nat.ne_of_lt (blk_lt (g := gb131) (o := .cells #[.int .i64 t123, .int .i64 t124, .int .i64 t125, .int .i64 t126, .slice Ao35 t127.length co35] 25 (0, 0)) (by (with_reducible repeat (first | refine blk_drewN ?_ _ | refine blk_drew ?_ | refine blk_alloc ?_ _)); exact BK131.out)) : gb131 ≠ gb140)); have n8_ := Aside0.mk ((by rw [hg]; exact Nat.ne_of_gt (blk_lt (g := gb131) (o := .cells #[.int .i64 t123, .int .i64 t124, .int .i64 t125, .int .i64 t126, .slice Ao35 t127.length co35] 25 (0, 0)) (by (with_reducible repeat (first | refine blk_drewN ?_ _ | refine blk_drew ?_ | refine blk_alloc ?_ _)); exact BK131.out)) : gb140 ≠ gb131)); clear HO129; clear HO138; clear BK131; clear HB; have HO129 := n0_; have HO138 := n1_; have BK131 := n2_; have HB := n3_; have BK140 := n4_; have GW140 := n5_; have GE140 := n6_; have NB131_140 := n7_; have NB140_131 := n8_; clear n0_ n1_ n2_ n3_ n4_ n5_ n6_ n7_ n8_; clear hb hbox hg; have hnb38 := NB140_131.out; have hnc38 := NB131_140.out; have hcz39_0 : w37.cell? ⟨gb140, 0, none⟩ = some (.int .i64 0) := (blk_cell BK140.out 0).trans rfl; have hcz39_1 : w37.cell? ⟨gb140, 1, none⟩ = some (.int .i64 0) := (blk_cell BK140.out 1).trans rfl; have hcz39_2 : w37.cell? ⟨gb140, 2, none⟩ = some (.int .i64 0) := (blk_cell BK140.out 2).trans rfl; have hcz39_3 : w37.cell? ⟨gb140, 3, none⟩ = some (.int .i64 0) := (blk_cell BK140.out 3).trans rfl; have hcz39_4 : w37.cell? ⟨gb140, 4, none⟩ = some (.slice none 0 0) := (blk_cell BK140.out 4).trans rfl; have hfz39_0 := blk_frozen BK140.out 0; have hfz39_1 := blk_frozen BK140.out 1; have hfz39_2 := blk_frozen BK140.out 2; have hfz39_3 := blk_frozen BK140.out 3; have hfz39_4 := blk_frozen BK140.out 4; obtain ⟨Ao40, co40, eo40⟩ := Kd.R_slice HO138.out; subst eo40; have hcz41_0 : w37.cell? ⟨gb131, 0, none⟩ = some (.int .i64 t123) := (blk_cell BK131.out 0).trans rfl; have hcz41_1 : w37.cell? ⟨gb131, 1, none⟩ = some (.int .i64 t124) := (blk_cell BK131.out 1).trans rfl; have hcz41_2 : w37.cell? ⟨gb131, 2, none⟩ = some (.int .i64 t125) := (blk_cell BK131.out 2).trans rfl; have hcz41_3 : w37.cell? ⟨gb131, 3, none⟩ = some (.int .i64 t126) := (blk_cell BK131.out 3).trans rfl; have hcz41_4 : w37.cell? ⟨gb131, 4, none⟩ = some (.slice Ao35 t127.length co35) := (blk_cell BK131.out 4).trans rfl; have hfz41_0 := blk_frozen BK131.out 0; have hfz41_1 := blk_frozen BK131.out 1; have hfz41_2 := blk_frozen BK131.out 2; have hfz41_3 := blk_frozen BK131.out 3; have hfz41_4 := blk_frozen BK131.out 4) | ((with_reducible refine gate_callee (f := 14) rfl ?_); refine goesL_ (some 49) rfl rfl Try.func14 (by kernel_rfl) rfl #[.agg #[.int .i64 t123, .int .i64 t124, .int .i64 t125, .int .i64 t126, .slice Ao35 t127.length co35], .agg #[.int .i64 t132, .int .i64 t133, .int .i64 t134, .int .i64 t135, .slice Ao40 t136.length co40]] rfl (by (try simp only [List.map_toArray, List.map_cons, List.map_nil]); first | done | rfl | (simp only [List.length_drop, List.length_take]; rfl)) ?_; (with_reducible refine (hopmeshref46_Same.calls kj4 t123 t124 t125 t126 _ _ t127 t132 t133 t134 t135 _ _ t136 false _ ?side1 ?side2 ?side3 ?side4 A19.out).mono ?_); (case side1 => refine (Kd.R_reads' (e := 9) (base := w.heap.size) (ok := fun k_ => (True ∧ some k_ ≠ (.slice Ao40 t136.length co40 : Value).ownBlock)) (n := t127.length) (c := co35) ?_).2.2; exact (by (with_reducible repeat (first | apply Kd.R_alloc | apply Kd.R_drewN | apply Kd.R_drew)); exact (Kd.R_mono (Kd.R_far (p := ⟨gb140, 4, none⟩) (Kd.R_far (p := ⟨gb140, 3, none⟩) (Kd.R_far (p := ⟨gb140, 2, none⟩) (Kd.R_far (p := ⟨gb140, 1, none⟩) (Kd.R_far (p := ⟨gb140, 0, none⟩) (Kd.R_types HO129.out BK140.out (by decide)) (fun _ hk => hk.2) (.int .i64 t132)) (fun _ hk => hk.2) (.int .i64 t133)) (fun _ hk => hk.2) (.int .i64 t134)) (fun _ hk => hk.2) (.int .i64 t135)) (fun _ hk => hk.2) (.slice Ao40 t136.length co40)) (fun _ h_ => h_.1)))); (case side2 => exact (Kd.R_reads' HO129.out).2.1); (case side3 => refine (Kd.R_reads' (e := 9) (base := w.heap.size) (ok := fun k_ => (True ∧ some k_ ≠ (.slice Ao35 t127.length co35 : Value).ownBlock)) (n := t136.length) (c := co40) ?_).2.2; exact (by (with_reducible repeat (first | apply Kd.R_alloc | apply Kd.R_drewN | apply Kd.R_drew)); exact (Kd.R_mono (Kd.R_far (p := ⟨gb140, 4, none⟩) (Kd.R_far (p := ⟨gb140, 3, none⟩) (Kd.R_far (p := ⟨gb140, 2, none⟩) (Kd.R_far (p := ⟨gb140, 1, none⟩) (Kd.R_far (p := ⟨gb140, 0, none⟩) (Kd.R_types HO138.out BK140.out (by decide)) (fun _ hk => hk.2) (.int .i64 t132)) (fun _ hk => hk.2) (.int .i64 t133)) (fun _ hk => hk.2) (.int .i64 t134)) (fun _ hk => hk.2) (.int .i64 t135)) (fun _ hk => hk.2) (.slice Ao40 t136.length co40)) (fun _ h_ => h_.1)))); (case side4 => exact (Kd.R_reads' HO138.out).2.1); rintro e w42 ⟨rfl, hb⟩; refine ⟨_, rfl, ?_⟩; have n0_ := Aside0.mk (Kd.R_below (by (with_reducible repeat (first | apply Kd.R_alloc | apply Kd.R_drewN | apply Kd.R_drew)); exact (Kd.R_mono (Kd.R_far (p := ⟨gb140, 4, none⟩) (Kd.R_far (p := ⟨gb140, 3, none⟩) (Kd.R_far (p := ⟨gb140, 2, none⟩) (Kd.R_far (p := ⟨gb140, 1, none⟩) (Kd.R_far (p := ⟨gb140, 0, none⟩) (Kd.R_types HO129.out BK140.out (by decide)) (fun _ hk => hk.2) (.int .i64 t132)) (fun _ hk => hk.2) (.int .i64 t133)) (fun _ hk => hk.2) (.int .i64 t134)) (fun _ hk => hk.2) (.int .i64 t135)) (fun _ hk => hk.2) (.slice Ao40 t136.length co40)) (fun _ h_ => h_.1))) hb); have n1_ := Aside0.mk (Kd.R_below (by (with_reducible repeat (first | apply Kd.R_alloc | apply Kd.R_drewN | apply Kd.R_drew)); exact (Kd.R_mono (Kd.R_far (p := ⟨gb140, 4, none⟩) (Kd.R_far (p := ⟨gb140, 3, none⟩) (Kd.R_far (p := ⟨gb140, 2, none⟩) (Kd.R_far (p := ⟨gb140, 1, none⟩) (Kd.R_far (p := ⟨gb140, 0, none⟩) (Kd.R_types HO138.out BK140.out (by decide)) (fun _ hk => hk.2) (.int .i64 t132)) (fun _ hk => hk.2) (.int .i64 t133)) (fun _ hk => hk.2) (.int .i64 t134)) (fun _ hk => hk.2) (.int .i64 t135)) (fun _ hk => hk.2) (.slice Ao40 t136.length co40)) (fun _ h_ => h_.1))) hb); have n2_ := Aside0.mk (blk_below (g := gb131) (o := .cells #[.int .i64 t123, .int .i64 t124, .int .i64 t125, .int .i64 t126, .slice Ao35 t127.length co35] 25 (0, 0)) (by (with_reducible repeat (first | refine blk_drewN ?_ _ | refine blk_drew ?_ | refine blk_alloc ?_ _)); refine blk_far ?_ NB131_140.out _; (with_reducible repeat (first | refine blk_drewN ?_ _ | refine blk_drew ?_ | refine blk_alloc ?_ _)); refine blk_far ?_ NB131_140.out _; (with_reducible repeat (first | refine blk_drewN ?_ _ | refine blk_drew ?_ | refine blk_alloc ?_ _)); refine blk_far ?_ NB131_140.out _; (with_reducible repeat (first | refine blk_drewN ?_ _ | refine blk_drew ?_ | refine blk_alloc ?_ _)); refine blk_far ?_ NB131_140.out _; (with_reducible repeat (first | refine blk_drewN ?_ _ | refine blk_drew ?_ | refine blk_alloc ?_ _)); refine blk_far ?_ NB131_140.out _; (with_reducible repeat (first | refine blk_drewN ?_ _ | refine blk_drew ?_ | refine blk_alloc ?_ _)); exact BK131.out) hb); have n3_ := Aside0.mk (blk_below (g := gb140) (o := .cells #[.int .i64 t132, .int .i64 t133, .int .i64 t134, .int .i64 t135, .slice Ao40 t136.length co40] 25 (0, 0)) (by (with_reducible repeat (first | refine blk_drewN ?_ _ | refine blk_drew ?_ | refine blk_alloc ?_ _)); refine blk_put (cs := #[.int .i64 t132, .int .i64 t133, .int .i64 t134, .int .i64 t135, .slice none 0 0]) ?_ 4 _ rfl; (with_reducible repeat (first | refine blk_drewN ?_ _ | refine blk_drew ?_ | refine blk_alloc ?_ _)); refine blk_put (cs := #[.int .i64 t132, .int .i64 t133, .int .i64 t134, .int .i64 0, .slice none 0 0]) ?_ 3 _ rfl; (with_reducible repeat (first | refine blk_drewN ?_ _ | refine blk_drew ?_ | refine blk_alloc ?_ _)); refine blk_put (cs := #[.int .i64 t132, .int .i64 t133, .int .i64 0, .int .i64 0, .slice none 0 0]) ?_ 2 _ rfl; (with_reducible repeat (first | refine blk_drewN ?_ _ | refine blk_drew ?_ | refine blk_alloc ?_ _)); refine blk_put (cs := #[.int .i64 t132, .int .i64 0, .int .i64 0, .int .i64 0, .slice none 0 0]) ?_ 1 _ rfl; (with_reducible repeat (first | refine blk_drewN ?_ _ | refine blk_drew ?_ | refine blk_alloc ?_ _)); refine blk_put (cs := #[.int .i64 0, .int .i64 0, .int .i64 0, .int .i64 0, .slice none 0 0]) ?_ 0 _ rfl; (with_reducible repeat (first | refine blk_drewN ?_ _ | refine blk_drew ?_ | refine blk_alloc ?_ _)); exact BK140.out) hb); have n4_ := Aside0.mk (below_step (by repeat (first | (with_reducible first | exact HB.out | apply below_alloc | apply pw_below_drewN | apply below_drew1 | refine below_set ?_ GE131.out | refine below_set ?_ GE140.out) | exact HB.out)) hb); clear HO129; clear HO138; clear BK131; clear BK140; clear HB; have HO129 := n0_; have HO138 := n1_; have BK131 := n2_; have BK140 := n3_; have HB := n4_; clear n0_ n1_ n2_ n3_ n4_; (try clear hb); (try clear hb2); (try clear hk); (try clear hi)))
          go_ret
          exact ⟨by first | rfl | (simp [errW_none, errW_some] <;> rfl) | (simp [*, errW_none, errW_some] <;> rfl), by repeat (first | (with_reducible first | exact HB.out | apply below_alloc | apply pw_below_drewN | apply below_drew1 | refine below_set ?_ GE131.out | refine below_set ?_ GE140.out) | exact HB.out)⟩

/-- THE ONE PURE STATEMENT of hopmeshlaw46_ImageMakes: yours. -/
def hopmeshlaw46_ImageMakes.Pure : Prop := ∀ (a0 : Int) (a1 : ByteArray) (a2 : Int) (a3 : Int), (Lit.int .i64 a0).wf = true → a1.size ≤ 140737488351232 → (Lit.int .i64 a2).wf = true → (Lit.int .i64 a3).wf = true → ∃ k, hopmeshlaw46_ImageMakes.f k a0 a1 a2 a3 = some true
theorem hopmeshlaw46_ImageMakes.walk (P : hopmeshlaw46_ImageMakes.Pure) (a0 : Int) (a1 : ByteArray) (a2 : Int) (a3 : Int) (w : World) (w0 : (Lit.int .i64 a0).wf = true) (w1 : a1.size ≤ 140737488351232) (w2 : (Lit.int .i64 a2).wf = true) (w3 : (Lit.int .i64 a3).wf = true) :
    Calls Try.prog 3 #[.int .i64 a0, .string a1, .int .i64 a2, .int .i64 a3] w fun e w' => e = .returned (.bool true) ∧ Below w.heap.size w w' := by
  obtain ⟨k, h⟩ := P a0 a1 a2 a3 w0 w1 w2 w3
  refine (hopmeshlaw46_ImageMakes.calls k a0 a1 a2 a3 true w h).mono ?_
  rintro e w' ⟨rfl, hd⟩
  exact ⟨rfl, hd⟩

/-! ### hopmeshref46_Few: function 15 -/
def hopmeshref46_Few.l0 : Nat → Int → Int → Int → Int → Int → List ByteArray → Option (Bool)
  | 0, _, _, _, _, _, _ => none
  | k + 1, x3, x143000, x143001, x143002, x143003, x143004 => if x3 < (x143004.length : Int) then (if 0 ≤ x3 then (if ((rdOf ByteArray.empty x143004 x3).size : Int) > 100 then (some false) else (hopmeshref46_Few.l0 k (wrap64 (x3 + 1)) x143000 x143001 x143002 x143003 x143004)) else (none)) else (some true)
def hopmeshref46_Few.f (k : Nat) (a0_0 : Int) (a0_1 : Int) (a0_2 : Int) (a0_3 : Int) (l0_4 : List ByteArray) : Option (Bool) := if (l0_4.length : Int) > 70 then (some false) else (hopmeshref46_Few.l0 k 0 a0_0 a0_1 a0_2 a0_3 l0_4)
theorem hopmeshref46_Few.mono_l : ∀ k, (∀ y0 y1 y2 y3 y4 y5, LeO (hopmeshref46_Few.l0 k y0 y1 y2 y3 y4 y5) (hopmeshref46_Few.l0 (k + 1) y0 y1 y2 y3 y4 y5))
  | 0 => fun _ _ _ _ _ _ r h => by simp [hopmeshref46_Few.l0] at h
  | k + 1 => by
    have ih0 := hopmeshref46_Few.mono_l k
    · intro y0 y1 y2 y3 y4 y5
      unfold hopmeshref46_Few.l0
      repeat' first
      | (with_reducible exact ih0 _ _ _ _ _ _)
      | (with_reducible exact LeO.refl _)
      | (with_reducible exact LeO.none _)
      | (with_reducible refine LeO.ite ?_ ?_)
      | (with_reducible refine LeO.bind ?_ (fun _ => ?_))
      | exact ih0 _ _ _ _ _ _
      | exact LeO.none _
      | refine LeO.ite ?_ ?_
      | refine LeO.bind ?_ (fun _ => ?_)
theorem hopmeshref46_Few.mono : ∀ a0 a1 a2 a3 a4 k, LeO (hopmeshref46_Few.f k a0 a1 a2 a3 a4) (hopmeshref46_Few.f (k + 1) a0 a1 a2 a3 a4) := by
  intro a0 a1 a2 a3 a4 k
  have ih0 := hopmeshref46_Few.mono_l k
  unfold hopmeshref46_Few.f
  repeat' first
      | (with_reducible exact ih0 _ _ _ _ _ _)
      | (with_reducible exact LeO.refl _)
      | (with_reducible exact LeO.none _)
      | (with_reducible refine LeO.ite ?_ ?_)
      | (with_reducible refine LeO.bind ?_ (fun _ => ?_))
      | exact ih0 _ _ _ _ _ _
      | exact LeO.none _
      | refine LeO.ite ?_ ?_
      | refine LeO.bind ?_ (fun _ => ?_)
set_option maxHeartbeats 8000000 in
set_option maxRecDepth 100000 in
theorem hopmeshref46_Few.calls (k : Nat) (a0_0 : Int) (a0_1 : Int) (a0_2 : Int) (a0_3 : Int) (A0_4 : Option Addr) (c0_4 : Nat) (l0_4 : List ByteArray) (r : Bool) (w : World) (hr0_4 : Kd.C Kd.string w A0_4 l0_4.length l0_4) (hc0_4 : l0_4.length ≤ c0_4) (h : hopmeshref46_Few.f k a0_0 a0_1 a0_2 a0_3 l0_4 = some r) :
    Calls Try.prog 15 #[.agg #[.int .i64 a0_0, .int .i64 a0_1, .int .i64 a0_2, .int .i64 a0_3, .slice A0_4 l0_4.length c0_4]] w fun e w' => e = .returned (.bool r) ∧ Below w.heap.size w w' := by
  have hu25 := Try.underlying25
  have HR0_4 := Aside0.mk hr0_4
  have HC0_4 := Aside0.mk hc0_4
  clear hr0_4 hc0_4
  have HB := Aside0.mk (Below.refl w.heap.size w)
  have H : (if (l0_4.length : Int) > 70 then (some false) else (hopmeshref46_Few.l0 k 0 a0_0 a0_1 a0_2 a0_3 l0_4)) = some r := h
  clear h
  by_cases c2 : (l0_4.length : Int) > 70
  · rw [if_pos c2] at H
    have c2b0 : decide (70 < (l0_4.length : Int)) = true := decide_eq_true c2
    have c2b1 : decide (70 < l0_4.length) = true := decide_eq_true (by omega)
    clear c2
    obtain rfl := Option.some.inj H
    go_enter Try.func15, Try.ntmps15
    go_wp2_with (first | ((with_reducible refine gate_dst (N := 1) rfl ?_); refine box_event ?hg (N := 1) ?hd (cs := #[.int .i64 a0_0, .int .i64 a0_1, .int .i64 a0_2, .int .i64 a0_3, .slice A0_4 l0_4.length c0_4]) (t := 25) ?hr ?_; (case hd => rfl); (case hg => rfl); (case hr => first | (go_simp; done) | (go_simp; rfl)); intro gb142 hg w3 hbox hb; have n0_ := Aside0.mk (below_step (by repeat (first | (with_reducible first | exact HB.out | apply below_alloc | apply pw_below_drewN | apply below_drew1) | exact HB.out)) hb); have n1_ := Aside0.mk (hbox); have n2_ := Aside0.mk ((by rw [hg]; exact (below_size (by repeat (first | (with_reducible first | exact HB.out | apply below_alloc | apply pw_below_drewN | apply below_drew1) | exact HB.out))) : w.heap.size ≤ gb142)); have n3_ := Aside0.mk ((by rw [hg]; exact (below_size (by repeat (first | (with_reducible first | exact HB.out | apply below_alloc | apply pw_below_drewN | apply below_drew1) | exact HB.out))) : w.heap.size ≤ gb142)); clear HB; have HB := n0_; have BK142 := n1_; have GW142 := n2_; have GE142 := n3_; clear n0_ n1_ n2_ n3_; clear hb hbox hg; have hcz4_0 : w3.cell? ⟨gb142, 0, none⟩ = some (.int .i64 a0_0) := (blk_cell BK142.out 0).trans rfl; have hcz4_1 : w3.cell? ⟨gb142, 1, none⟩ = some (.int .i64 a0_1) := (blk_cell BK142.out 1).trans rfl; have hcz4_2 : w3.cell? ⟨gb142, 2, none⟩ = some (.int .i64 a0_2) := (blk_cell BK142.out 2).trans rfl; have hcz4_3 : w3.cell? ⟨gb142, 3, none⟩ = some (.int .i64 a0_3) := (blk_cell BK142.out 3).trans rfl; have hcz4_4 : w3.cell? ⟨gb142, 4, none⟩ = some (.slice A0_4 l0_4.length c0_4) := (blk_cell BK142.out 4).trans rfl; have hfz4_0 := blk_frozen BK142.out 0; have hfz4_1 := blk_frozen BK142.out 1; have hfz4_2 := blk_frozen BK142.out 2; have hfz4_3 := blk_frozen BK142.out 3; have hfz4_4 := blk_frozen BK142.out 4))
    go_ret
    exact ⟨by first | rfl | (simp [errW_none, errW_some] <;> rfl) | (simp [*, errW_none, errW_some] <;> rfl), by repeat (first | (with_reducible first | exact HB.out | apply below_alloc | apply pw_below_drewN | apply below_drew1 | refine below_set ?_ GE142.out) | exact HB.out)⟩
  · rw [if_neg c2] at H
    have c2b0 : decide (70 < (l0_4.length : Int)) = false := decide_eq_false c2
    have c2b1 : decide (70 < l0_4.length) = false := decide_eq_false (by omega)
    clear c2
    have H' := Aside0.mk H
    clear H
    go_enter Try.func15, Try.ntmps15
    go_wp2_with (first | ((with_reducible refine gate_dst (N := 1) rfl ?_); refine box_event ?hg (N := 1) ?hd (cs := #[.int .i64 a0_0, .int .i64 a0_1, .int .i64 a0_2, .int .i64 a0_3, .slice A0_4 l0_4.length c0_4]) (t := 25) ?hr ?_; (case hd => rfl); (case hg => rfl); (case hr => first | (go_simp; done) | (go_simp; rfl)); intro gb142 hg w5 hbox hb; have n0_ := Aside0.mk (below_step (by repeat (first | (with_reducible first | exact HB.out | apply below_alloc | apply pw_below_drewN | apply below_drew1) | exact HB.out)) hb); have n1_ := Aside0.mk (hbox); have n2_ := Aside0.mk ((by rw [hg]; exact (below_size (by repeat (first | (with_reducible first | exact HB.out | apply below_alloc | apply pw_below_drewN | apply below_drew1) | exact HB.out))) : w.heap.size ≤ gb142)); have n3_ := Aside0.mk ((by rw [hg]; exact (below_size (by repeat (first | (with_reducible first | exact HB.out | apply below_alloc | apply pw_below_drewN | apply below_drew1) | exact HB.out))) : w.heap.size ≤ gb142)); clear HB; have HB := n0_; have BK142 := n1_; have GW142 := n2_; have GE142 := n3_; clear n0_ n1_ n2_ n3_; clear hb hbox hg; have hcz6_0 : w5.cell? ⟨gb142, 0, none⟩ = some (.int .i64 a0_0) := (blk_cell BK142.out 0).trans rfl; have hcz6_1 : w5.cell? ⟨gb142, 1, none⟩ = some (.int .i64 a0_1) := (blk_cell BK142.out 1).trans rfl; have hcz6_2 : w5.cell? ⟨gb142, 2, none⟩ = some (.int .i64 a0_2) := (blk_cell BK142.out 2).trans rfl; have hcz6_3 : w5.cell? ⟨gb142, 3, none⟩ = some (.int .i64 a0_3) := (blk_cell BK142.out 3).trans rfl; have hcz6_4 : w5.cell? ⟨gb142, 4, none⟩ = some (.slice A0_4 l0_4.length c0_4) := (blk_cell BK142.out 4).trans rfl; have hfz6_0 := blk_frozen BK142.out 0; have hfz6_1 := blk_frozen BK142.out 1; have hfz6_2 := blk_frozen BK142.out 2; have hfz6_3 := blk_frozen BK142.out 3; have hfz6_4 := blk_frozen BK142.out 4))
    go_loopg [3] k (fun kq v3 w' => ∃ (x3_1 : Int), v3 = .int .i64 x3_1 ∧ Aside0 (hopmeshref46_Few.l0 kq x3_1 a0_0 a0_1 a0_2 a0_3 l0_4 = some r) ∧ Aside0 (kq ≤ k) ∧ Aside0 (w'.heap[gb142]? = some (.cells #[.int .i64 a0_0, .int .i64 a0_1, .int .i64 a0_2, .int .i64 a0_3, (.slice A0_4 l0_4.length c0_4)] 25 (0, 0))) ∧ Aside0 (Below w.heap.size w w'))
    case atStart => exact ⟨(0), (by first | rfl | (simp; done) | (simp [*]; done)), H', ⟨Nat.le_refl _⟩, ⟨by (with_reducible repeat (first | refine blk_drewN ?_ _ | refine blk_drew ?_ | refine blk_alloc ?_ _)); exact BK142.out⟩, ⟨by repeat (first | (with_reducible first | exact HB.out | apply below_alloc | apply pw_below_drewN | apply below_drew1 | refine below_set ?_ GE142.out) | exact HB.out)⟩⟩
    case round =>
      clear H'
      try clear c1
      try clear c2
      try clear c2b0
      try clear c2b1
      try clear p2
      try clear hcz4_0
      try clear hcz4_1
      try clear hcz4_2
      try clear hcz4_3
      try clear hcz4_4
      try clear hcz6_0
      try clear hcz6_1
      try clear hcz6_2
      try clear hcz6_3
      try clear hcz6_4
      try clear hfz4_0
      try clear hfz4_1
      try clear hfz4_2
      try clear hfz4_3
      try clear hfz4_4
      try clear hfz6_0
      try clear hfz6_1
      try clear hfz6_2
      try clear hfz6_3
      try clear hfz6_4
      obtain ⟨x3_1, rfl, HA, HK1, BK142, HB⟩ := hrel
      cases gk with
      | zero => exact absurd HA.out (by simp [hopmeshref46_Few.l0])
      | succ k1 =>
        have H := HA.out
        clear HA
        simp only [hopmeshref46_Few.l0] at H
        by_cases c7 : x3_1 < (l0_4.length : Int)
        · rw [if_pos c7] at H
          have c7b0 : decide (x3_1 < (l0_4.length : Int)) = true := decide_eq_true c7
          clear c7
          by_cases c8 : 0 ≤ x3_1
          · rw [if_pos c8] at H
            have c8b0 : decide (0 ≤ x3_1) = true := decide_eq_true c8
            clear c8
            by_cases c9 : ((rdOf ByteArray.empty l0_4 x3_1).size : Int) > 100
            · rw [if_pos c9] at H
              have c9b0 : decide (100 < ((rdOf ByteArray.empty l0_4 x3_1).size : Int)) = true := decide_eq_true c9
              have c9b1 : decide (100 < (rdOf ByteArray.empty l0_4 x3_1).size) = true := decide_eq_true (by omega)
              clear c9
              obtain rfl := Option.some.inj H
              have hcz10_0 : wr.cell? ⟨gb142, 0, none⟩ = some (.int .i64 a0_0) := (blk_cell BK142.out 0).trans rfl
              have hcz10_1 : wr.cell? ⟨gb142, 1, none⟩ = some (.int .i64 a0_1) := (blk_cell BK142.out 1).trans rfl
              have hcz10_2 : wr.cell? ⟨gb142, 2, none⟩ = some (.int .i64 a0_2) := (blk_cell BK142.out 2).trans rfl
              have hcz10_3 : wr.cell? ⟨gb142, 3, none⟩ = some (.int .i64 a0_3) := (blk_cell BK142.out 3).trans rfl
              have hcz10_4 : wr.cell? ⟨gb142, 4, none⟩ = some (.slice A0_4 l0_4.length c0_4) := (blk_cell BK142.out 4).trans rfl
              have hfz10_0 := blk_frozen BK142.out 0
              have hfz10_1 := blk_frozen BK142.out 1
              have hfz10_2 := blk_frozen BK142.out 2
              have hfz10_3 := blk_frozen BK142.out 3
              have hfz10_4 := blk_frozen BK142.out 4
              have p143 : 0 ≤ (x3_1 : Int) := of_decide_eq_true (by first | (with_reducible assumption) | assumption)
              have q143 : x3_1 < (l0_4.length : Int) := of_decide_eq_true (by first | (with_reducible assumption) | assumption)
              obtain ⟨ad143, e143, hx143_0⟩ := Kd.at_string HR0_4.out x3_1 p143 q143
              cases e143
              replace hx143_0 := (HB.out.cell (World.block_lt_of_cell? w _ hx143_0)).trans hx143_0
              replace p143 := eq_true p143
              replace q143 := eq_true q143
              go_wp2
              go_ret
              exact ⟨by first | rfl | (simp [errW_none, errW_some] <;> rfl) | (simp [*, errW_none, errW_some] <;> rfl), by repeat (first | (with_reducible first | exact HB.out | apply below_alloc | apply pw_below_drewN | apply below_drew1 | refine below_set ?_ GE142.out) | exact HB.out)⟩
            · rw [if_neg c9] at H
              have c9b0 : decide (100 < ((rdOf ByteArray.empty l0_4 x3_1).size : Int)) = false := decide_eq_false c9
              have c9b1 : decide (100 < (rdOf ByteArray.empty l0_4 x3_1).size) = false := decide_eq_false (by omega)
              clear c9
              have H' := Aside0.mk H
              clear H
              have hcz11_0 : wr.cell? ⟨gb142, 0, none⟩ = some (.int .i64 a0_0) := (blk_cell BK142.out 0).trans rfl
              have hcz11_1 : wr.cell? ⟨gb142, 1, none⟩ = some (.int .i64 a0_1) := (blk_cell BK142.out 1).trans rfl
              have hcz11_2 : wr.cell? ⟨gb142, 2, none⟩ = some (.int .i64 a0_2) := (blk_cell BK142.out 2).trans rfl
              have hcz11_3 : wr.cell? ⟨gb142, 3, none⟩ = some (.int .i64 a0_3) := (blk_cell BK142.out 3).trans rfl
              have hcz11_4 : wr.cell? ⟨gb142, 4, none⟩ = some (.slice A0_4 l0_4.length c0_4) := (blk_cell BK142.out 4).trans rfl
              have hfz11_0 := blk_frozen BK142.out 0
              have hfz11_1 := blk_frozen BK142.out 1
              have hfz11_2 := blk_frozen BK142.out 2
              have hfz11_3 := blk_frozen BK142.out 3
              have hfz11_4 := blk_frozen BK142.out 4
              have p143 : 0 ≤ (x3_1 : Int) := of_decide_eq_true (by first | (with_reducible assumption) | assumption)
              have q143 : x3_1 < (l0_4.length : Int) := of_decide_eq_true (by first | (with_reducible assumption) | assumption)
              obtain ⟨ad143, e143, hx143_0⟩ := Kd.at_string HR0_4.out x3_1 p143 q143
              cases e143
              replace hx143_0 := (HB.out.cell (World.block_lt_of_cell? w _ hx143_0)).trans hx143_0
              replace p143 := eq_true p143
              replace q143 := eq_true q143
              go_wp2
              go_roundg k1
              case measure => have := HK1.out; omega
              case rel => exact ⟨(wrap64 (x3_1 + 1)), (by first | rfl | (simp; done) | (simp [*]; done)), H', ⟨by have := HK1.out; omega⟩, ⟨by (with_reducible repeat (first | refine blk_drewN ?_ _ | refine blk_drew ?_ | refine blk_alloc ?_ _)); exact BK142.out⟩, ⟨by repeat (first | (with_reducible first | exact HB.out | apply below_alloc | apply pw_below_drewN | apply below_drew1 | refine below_set ?_ GE142.out) | exact HB.out)⟩⟩
          · rw [if_neg c8] at H
            exact absurd H (by simp)
        · rw [if_neg c7] at H
          have c7b0 : decide (x3_1 < (l0_4.length : Int)) = false := decide_eq_false c7
          clear c7
          obtain rfl := Option.some.inj H
          have hcz12_0 : wr.cell? ⟨gb142, 0, none⟩ = some (.int .i64 a0_0) := (blk_cell BK142.out 0).trans rfl
          have hcz12_1 : wr.cell? ⟨gb142, 1, none⟩ = some (.int .i64 a0_1) := (blk_cell BK142.out 1).trans rfl
          have hcz12_2 : wr.cell? ⟨gb142, 2, none⟩ = some (.int .i64 a0_2) := (blk_cell BK142.out 2).trans rfl
          have hcz12_3 : wr.cell? ⟨gb142, 3, none⟩ = some (.int .i64 a0_3) := (blk_cell BK142.out 3).trans rfl
          have hcz12_4 : wr.cell? ⟨gb142, 4, none⟩ = some (.slice A0_4 l0_4.length c0_4) := (blk_cell BK142.out 4).trans rfl
          have hfz12_0 := blk_frozen BK142.out 0
          have hfz12_1 := blk_frozen BK142.out 1
          have hfz12_2 := blk_frozen BK142.out 2
          have hfz12_3 := blk_frozen BK142.out 3
          have hfz12_4 := blk_frozen BK142.out 4
          go_wp2
          go_ret
          exact ⟨by first | rfl | (simp [errW_none, errW_some] <;> rfl) | (simp [*, errW_none, errW_some] <;> rfl), by repeat (first | (with_reducible first | exact HB.out | apply below_alloc | apply pw_below_drewN | apply below_drew1 | refine below_set ?_ GE142.out) | exact HB.out)⟩

/-! ### image_Check: function 20 -/
def image_Check.f (a0_0 : Int) (a0_1 : Int) (a0_2 : Int) (a0_3 : Int) (l0_4 : List ByteArray) : Option (Int) := fCheck a0_0 a0_1 a0_2 a0_3 l0_4
theorem image_Check.calls (a0_0 : Int) (a0_1 : Int) (a0_2 : Int) (a0_3 : Int) (A0_4 : Option Addr) (c0_4 : Nat) (l0_4 : List ByteArray) (r : Int) (w : World) (hr0_4 : Kd.C Kd.string w A0_4 l0_4.length l0_4) (_hc0_4 : l0_4.length ≤ c0_4) (h : image_Check.f a0_0 a0_1 a0_2 a0_3 l0_4 = some r) :
    Calls Try.prog 20 #[.agg #[.int .i64 a0_0, .int .i64 a0_1, .int .i64 a0_2, .int .i64 a0_3, .slice A0_4 l0_4.length c0_4]] w fun e w' => e = .returned (.int .i64 r) ∧ Below w.heap.size w w' := cCheck a0_0 a0_1 a0_2 a0_3 A0_4 c0_4 l0_4 r w hr0_4 h

/-! ### image_number: function 56 -/
def image_number.f (l0 : List Int) : Option (ByteArray) := fNumber l0
theorem image_number.calls (A0 : Option Addr) (c0 : Nat) (l0 : List Int) (r : ByteArray) (w : World) (hr0 : Kd.C (Kd.int .i64) w A0 l0.length l0) (hc0 : l0.length ≤ c0) (h : image_number.f l0 = some r) :
    Calls Try.prog 56 #[.slice A0 l0.length c0] w fun e w' => e = .returned (.string r) ∧ Below w.heap.size w w' := cNumber A0 c0 l0 r w hr0 h

/-! ### strings_Join: function 58 -/
def strings_Join.f (l0 : List ByteArray) (a1 : ByteArray) : Option (ByteArray) := fJoin l0 a1
theorem strings_Join.calls (A0 : Option Addr) (c0 : Nat) (l0 : List ByteArray) (a1 : ByteArray) (r : ByteArray) (w : World) (hr0 : Kd.C Kd.string w A0 l0.length l0) (hc0 : l0.length ≤ c0) (h : strings_Join.f l0 a1 = some r) :
    Calls Try.prog 58 #[.slice A0 l0.length c0, .string a1] w fun e w' => e = .returned (.string r) ∧ Below w.heap.size w w' := cJoin A0 c0 l0 a1 r w hr0 hc0 h

end Go.Proofs.Ytnfcohpljgmaiaa.Q
