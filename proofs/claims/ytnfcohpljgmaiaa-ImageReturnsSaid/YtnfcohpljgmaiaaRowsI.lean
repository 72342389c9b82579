/- A manifest as an argument of a row, opened. -/
import Derived.Test.YtnfcohpljgmaiaaOpen
import Derived.Test.YtnfcohpljgmaiaaCustI
namespace Go.Proofs.Ytnfcohpljgmaiaa
open Go.RowKit Go.ChangeShapes Go.WideShapes Go.Proofs.YtnfcohpljgmaiaaW.PrintWords

theorem agg_ofI {cs : Array Value} {l : List Value} (h : (Value.agg cs).cells.toList = l) : cs = l.toArray := by
  have h' : cs.toList = l := h
  rw [← h']
theorem open_manifest {H : Type} {enc : TypeId × Value → H} {w : World} {base : Nat} {spare : Nat → Bool} {held : Bool} {fuel : Nat} {cs : List Value} {x : DataW H × List MemPlace}
    (h : DataW.trod enc Try.prog w base spare held fuel 25 cs = some x) : ∃ (V S P K : Int) (A : Option Addr) (c : Nat) (l : List ByteArray), cs = [.int .i64 V, .int .i64 S, .int .i64 P, .int .i64 K, .slice A l.length c] ∧ l.length ≤ c ∧ Kd.C Kd.string w A l.length l ∧
      ((Lit.int .i64 V).wf = true ∧ (Lit.int .i64 S).wf = true ∧ (Lit.int .i64 P).wf = true ∧ (Lit.int .i64 K).wf = true) := by
  have oi := opens_int (P := Try.prog) Try.underlying3 (by kernel_rfl)
  have ol := opens_slice (P := Try.prog) Try.underlying23 (by kernel_rfl) (opens_string Try.underlying9 (by kernel_rfl))
  obtain ⟨a, hk, hg⟩ := (opens_struct (f := id) Try.underlying25 (by kernel_rfl) (opensAt_cons rfl oi (opensAt_cons rfl oi (opensAt_cons rfl oi (opensAt_cons rfl oi (opensAt_last rfl ol))))) (fun a => ⟨a, rfl⟩)).2 _ _ _ _ _ _ _ _ _ h
  obtain ⟨V, S, P, K, l⟩ := a
  obtain ⟨c0, d0, rfl, h0, c1, d1, rfl, h1, c2, d2, rfl, h2, c3, d3, rfl, h3, A, c, h4, hc, hC⟩ := hk
  have e0 : c0 = [.int .i64 V] := h0
  have e1 : c1 = [.int .i64 S] := h1
  have e2 : c2 = [.int .i64 P] := h2
  have e3 : c3 = [.int .i64 K] := h3
  subst e0 e1 e2 e3 h4
  exact ⟨V, S, P, K, A, c, l, rfl, hc, hC, hg.1, hg.2.1, hg.2.2.1, hg.2.2.2.1⟩

end Go.Proofs.Ytnfcohpljgmaiaa
