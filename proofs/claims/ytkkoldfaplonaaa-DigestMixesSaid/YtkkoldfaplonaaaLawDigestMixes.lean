/- For all words: what was mixed with two words is the same exactly if it was the same before, and the chapter's example holds. No condition. -/
import Derived.Test.YtkkoldfaplonaaaRows
import Derived.Test.YtkkoldfaplonaaaRowsD
import Derived.WalkKit
import Derived.ProofKit
import Derived.OpenShut
import Derived.ShutString
import Derived.ChangeOld
import Derived.Below
import Derived.SizedLaws
namespace Go.Proofs.Ytkkoldfaplonaaa.digestMixes
open Go.ChangeShapes Go.WideShapes Go.ChangeAt Go.RowKit
open Go.ChangeMaps (open_string shut_string)
set_option linter.unusedVariables false
theorem own : ownKnob Try.prog.godebug = none := by kernel_rfl
theorem laidOut : laidOutB Try.prog = true := by kernel_rfl
set_option maxRecDepth 100000 in
theorem lifted (os : Os) (started : os.Started) (H : Type) (enc : TypeId × Value → H) :
    ReturnsInHanded {} Try.checked os 6 .any (Rows.digestMixesSpec.pre6 enc Try.prog Try.f6 Rows.digestMixesRow.domain false) (Rows.digestMixesSpec.post enc Try.prog Try.f6 false true false false) := by
  refine returnsInHanded_of_change_sized (C := Try.checked) own started (by kernel_rfl) Try.func6
    (ChangeSpec.witness6 (enc := enc) (C := Try.checked) false ⟨#[], #[.agg #[.int .u32 0, .int .u32 0, .int .u32 0, .int .u32 0], .agg #[.int .u32 0, .int .u32 0, .int .u32 0, .int .u32 0], .agg #[.int .u32 0, .int .u32 0]], []⟩ 8 (by kernel_rfl) (by kernel_rfl) (by kernel_rfl) (by kernel_rfl)) ?_
  intro W base args ds gs before hval0 hW hcnd hsz0 _
  have hsz : (DataW.weightsEach Try.prog (Try.f6.params.toList ++ Rows.digestMixesSpec.plain.varTypes Try.prog) (ds ++ gs)).all (· ≤ reachBytes) = true := hsz0
  have hval : ∀ (j : Nat) t v, Try.f6.params[j]? = some t → args[j]? = some v → Value.okWide Try.prog W .any base t v := hval0
  have hW' := hW
  obtain ⟨p, q, hA0, hV, rfl, hfz, hnd⟩ := hW
  have hA : DataW.TrodAll enc Try.prog W 0 (fun _ => true) true Try.f6.params.toList args.toList ds p := hA0
  rw [Try.params6] at hA hval hsz
  obtain ⟨v0, vs0, d0, ds0, p0, q0, hargs, rfl, rfl, h0, r0⟩ := trodAll_cons hA
  obtain ⟨v1, vs1, d1, ds1, p1, q1, rfl, rfl, rfl, h1, r1⟩ := trodAll_cons r0
  obtain ⟨v2, vs2, d2, ds2, p2, q2, rfl, rfl, rfl, h2, r2⟩ := trodAll_cons r1
  obtain ⟨rfl, rfl, rfl⟩ := trodAll_nil r2
  obtain rfl : args = #[v0, v1, v2] := by cases args; simp_all
  obtain ⟨rfl, rfl⟩ := trodVars_none hV
  have k0 := h0
  have lt0 : ∀ x ∈ p0, x.block < W.heap.size := by obtain ⟨m, hm⟩ := k0; exact DataW.trod_lt m _ _ _ hm
  have hv0 := hval 0 30 v0 rfl rfl
  obtain ⟨fuel0, hf0⟩ := h0
  obtain ⟨cs0, rfl, -⟩ := okWide_array Try.underlying30 hv0
  obtain ⟨l0, hl0, hc0, hw0⟩ := open_int_array (e := 29) Try.underlying30 Try.underlying29 (by kernel_rfl) (by kernel_rfl) hf0
  obtain ⟨m0, hm0, he0⟩ := u32_of_ints l0 hw0
  rw [he0] at hc0
  rw [hl0] at hm0
  obtain rfl := agg_of hc0
  have k1 := h1
  have lt1 : ∀ x ∈ p1, x.block < W.heap.size := by obtain ⟨m, hm⟩ := k1; exact DataW.trod_lt m _ _ _ hm
  have hv1 := hval 1 30 v1 rfl rfl
  obtain ⟨fuel1, hf1⟩ := h1
  obtain ⟨cs1, rfl, -⟩ := okWide_array Try.underlying30 hv1
  obtain ⟨l1, hl1, hc1, hw1⟩ := open_int_array (e := 29) Try.underlying30 Try.underlying29 (by kernel_rfl) (by kernel_rfl) hf1
  obtain ⟨m1, hm1, he1⟩ := u32_of_ints l1 hw1
  rw [he1] at hc1
  rw [hl1] at hm1
  obtain rfl := agg_of hc1
  have k2 := h2
  have lt2 : ∀ x ∈ p2, x.block < W.heap.size := by obtain ⟨m, hm⟩ := k2; exact DataW.trod_lt m _ _ _ hm
  have hv2 := hval 2 39 v2 rfl rfl
  obtain ⟨fuel2, hf2⟩ := h2
  obtain ⟨cs2, rfl, -⟩ := okWide_array Try.underlying39 hv2
  obtain ⟨l2, hl2, hc2, hw2⟩ := open_int_array (e := 29) Try.underlying39 Try.underlying29 (by kernel_rfl) (by kernel_rfl) hf2
  obtain ⟨m2, hm2, he2⟩ := u32_of_ints l2 hw2
  rw [he2] at hc2
  rw [hl2] at hm2
  obtain rfl := agg_of hc2
  clear hA0 hval0 hsz0 hsz
  refine (mixes_row m0 m1 m2 hm0 hm1 hm2 W).mono fun e W' ⟨he, bel⟩ => ?_
  subst he
  exact ⟨_, rfl, _, _, _, [], _, [], hW', trodAll_mk1 (shut_bool Try.underlying4 _), (trodAll_cons_mk (Below.trod laidOut (by kernel_rfl) (of_decide_eq_true (by kernel_rfl)) k0 bel lt0) (trodAll_cons_mk (Below.trod laidOut (by kernel_rfl) (of_decide_eq_true (by kernel_rfl)) k1 bel lt1) (trodAll_cons_mk (Below.trod laidOut (by kernel_rfl) (of_decide_eq_true (by kernel_rfl)) k2 bel lt2) trodAll_mk0))), rfl, bel.frame _, fun h => by cases h⟩
theorem over : Rows.digestMixesRow.holds Try.pinned (OpenSpec.ofChange Rows.digestMixesSpec) :=
  OpenClaim.holds_of_wide 6 Try.f6 rfl rfl rfl rfl rfl rfl rfl ⟨rfl, rfl, rfl, rfl, rfl⟩ rfl rfl rfl rfl rfl (by kernel_rfl) Try.func6 (by kernel_rfl)
    (of_decide_eq_true (by kernel_rfl)) (by unfold Func.isWrapper; first | (rw [if_pos (by decide +kernel)]; kernel_rfl) | (rw [if_neg (by decide +kernel)]; exact ⟨rfl, rfl⟩))
    (fun os started H enc _ => lifted os started H enc)
theorem proved : Rows.DigestMixesSaid := over
#print axioms proved
end Go.Proofs.Ytkkoldfaplonaaa.digestMixes
namespace Go.Proofs.Ytkkoldfaplonaaa
/-- The row, under a short name, for the claim. -/
theorem digestMixes_holds : Rows.DigestMixesSaid := digestMixes.proved
end Go.Proofs.Ytkkoldfaplonaaa
