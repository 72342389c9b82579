/- For at most 20 calls of Write with at most 6 strings of at most 200 bytes the hash counts the bytes and has their digest behind each call, and the chapter's example holds. No condition. -/
import Derived.Test.YtkkoldfaplonaaaRows
import Derived.Test.YtkkoldfaplonaaaLawStream
import Derived.WalkKit
import Derived.ProofKit
import Derived.OpenShut
import Derived.ShutString
import Derived.ChangeOld
import Derived.Below
import Derived.SizedLaws
namespace Go.Proofs.Ytkkoldfaplonaaa.digestStream
open Go.ChangeShapes Go.WideShapes Go.ChangeAt Go.RowKit
open Go.ChangeMaps (open_string shut_string)
set_option linter.unusedVariables false
theorem own : ownKnob Try.prog.godebug = none := by kernel_rfl
theorem laidOut : laidOutB Try.prog = true := by kernel_rfl
set_option maxRecDepth 100000 in
theorem lifted (os : Os) (started : os.Started) (H : Type) (enc : TypeId × Value → H) :
    ReturnsInHanded {} Try.checked os 7 .any (Rows.digestStreamSpec.pre6 enc Try.prog Try.f7 Rows.digestStreamRow.domain false) (Rows.digestStreamSpec.post enc Try.prog Try.f7 false true false false) := by
  refine returnsInHanded_of_change_sized (C := Try.checked) own started (by kernel_rfl) Try.func7
    (ChangeSpec.witness6 (enc := enc) (C := Try.checked) false ⟨#[], #[.slice none 0 0], []⟩ 8 (by kernel_rfl) (by kernel_rfl) (by kernel_rfl) (by kernel_rfl)) ?_
  intro W base args ds gs before hval0 hW hcnd hsz0 _
  have hsz : (DataW.weightsEach Try.prog (Try.f7.params.toList ++ Rows.digestStreamSpec.plain.varTypes Try.prog) (ds ++ gs)).all (· ≤ reachBytes) = true := hsz0
  have hval : ∀ (j : Nat) t v, Try.f7.params[j]? = some t → args[j]? = some v → Value.okWide Try.prog W .any base t v := hval0
  have hW' := hW
  obtain ⟨p, q, hA0, hV, rfl, hfz, hnd⟩ := hW
  have hA : DataW.TrodAll enc Try.prog W 0 (fun _ => true) true Try.f7.params.toList args.toList ds p := hA0
  rw [Try.params7] at hA hval hsz
  obtain ⟨v0, vs0, d0, ds0, p0, q0, hargs, rfl, rfl, h0, r0⟩ := trodAll_cons hA
  obtain ⟨rfl, rfl, rfl⟩ := trodAll_nil r0
  obtain rfl : args = #[v0] := by cases args; simp_all
  obtain ⟨rfl, rfl⟩ := trodVars_none hV
  have k0 := h0
  have lt0 : ∀ x ∈ p0, x.block < W.heap.size := by obtain ⟨m, hm⟩ := k0; exact DataW.trod_lt m _ _ _ hm
  have hv0 := hval 0 41 v0 rfl rfl
  obtain ⟨fuel0, hf0⟩ := h0
  obtain ⟨A0, len0, cap0, rfl⟩ := okWide_slice Try.underlying41 hv0
  obtain ⟨x0, hx0, gx0, -⟩ := (opens_slice Try.underlying41 (by kernel_rfl) (opens_slice Try.underlying44 (by kernel_rfl) (opens_string Try.underlying9 (by kernel_rfl)))).2 _ _ _ _ _ _ _ _ _ hf0
  obtain ⟨A1, c1, he0, hl0, hC0⟩ := hx0
  have hse : Value.slice A0 len0 cap0 = Value.slice A1 x0.length c1 := by simpa [Value.cells] using he0
  injection hse with hs1 hs2 hs3
  subst hs1 hs2 hs3
  clear hA0 hval0 hsz0 hsz
  refine (stream_law A0 cap0 x0 W (callsAt_of hC0) (by simp only [maxLen] at gx0; omega)).mono fun e W' ⟨he, bel⟩ => ?_
  subst he
  exact ⟨_, rfl, _, _, _, [], _, [], hW', trodAll_mk1 (shut_bool Try.underlying4 _), (trodAll_cons_mk (Below.trod laidOut (by kernel_rfl) (of_decide_eq_true (by kernel_rfl)) k0 bel lt0) trodAll_mk0), rfl, bel.frame _, fun h => by cases h⟩
theorem over : Rows.digestStreamRow.holds Try.pinned (OpenSpec.ofChange Rows.digestStreamSpec) :=
  OpenClaim.holds_of_wide 7 Try.f7 rfl rfl rfl rfl rfl rfl rfl ⟨rfl, rfl, rfl, rfl, rfl⟩ rfl rfl rfl rfl rfl (by kernel_rfl) Try.func7 (by kernel_rfl)
    (of_decide_eq_true (by kernel_rfl)) (by unfold Func.isWrapper; first | (rw [if_pos (by decide +kernel)]; kernel_rfl) | (rw [if_neg (by decide +kernel)]; exact ⟨rfl, rfl⟩))
    (fun os started H enc _ => lifted os started H enc)
theorem proved : Rows.DigestStreamSaid := over
#print axioms proved
end Go.Proofs.Ytkkoldfaplonaaa.digestStream
namespace Go.Proofs.Ytkkoldfaplonaaa
/-- The row, under a short name, for the claim. -/
theorem digestStream_holds : Rows.DigestStreamSaid := digestStream.proved
end Go.Proofs.Ytkkoldfaplonaaa
