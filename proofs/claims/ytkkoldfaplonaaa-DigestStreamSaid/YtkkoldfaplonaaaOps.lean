/- Laws of single operations, over any program: an array's element at a computed place. -/
import Derived.Test.YtkkoldfaplonaaaBase
import Derived.WalkKit
import Derived.Laws.CopyOwn
import Derived.Deep.RegionLaw
namespace Go.Proofs.Ytkkoldfaplonaaa
open Go.RowKit

section
variable {P : Program}

theorem run_index_one {t e : TypeId} {n : Nat} {cs : Array Value} (ht : P.underlying t = some (.array n e)) (ha : ∀ w, (isAgg e).run P w = .ok false w)
    (hz : (P.info? e).map (·.size) = some 1) (i : Nat) (hlt : i < n) (v : Value) (hv : cs[i]? = some v) (w : World) :
    (Instr.index t (.agg cs) (.int .i64 (i : Int))).run P w = .ok v w := by
  obtain ⟨inf, hi, h1⟩ := Option.map_eq_some_iff.1 hz
  simp [Instr.index, asIntOf, run_underlying ht, sizeOf, typeInfo, hi, h1, part, ha, hlt, hv]

theorem run_index_agg {t e : TypeId} {n s : Nat} {cs : Array Value} (ht : P.underlying t = some (.array n e)) (ha : ∀ w, (isAgg e).run P w = .ok true w)
    (hz : (P.info? e).map (·.size) = some s) (i : Nat) (hlt : i < n) (cs' : Array Value) (hv : cs.extract (i * s) (i * s + s) = cs') (w : World) :
    (Instr.index t (.agg cs) (.int .i64 (i : Int))).run P w = .ok (.agg cs') w := by
  obtain ⟨inf, hi, h1⟩ := Option.map_eq_some_iff.1 hz
  simp [Instr.index, asIntOf, run_underlying ht, sizeOf, typeInfo, hi, h1, part, ha, hlt, hv]

theorem keeps_setRow (w : World) (g : Nat) (cs : Array Value) : Keeps (fun k => k = g) w (w.setRow g cs) :=
  ⟨rfl, rfl, rfl, by simp [World.setRow], fun k _ hn => setRow_other w g k cs hn⟩

/-- copy between two rows, as a step of a region that draws: what it leaves of all other blocks is told. -/
theorem step_copy_keeps {ops : Array Oper} {o : Oper} {a : Act} {w : World} {K : Act → World → Prop} {Q : Exit → Act → World → Prop} {E : Prop} (hgd : o.guard = none) (d s : Operand) (dT sT : TypeId)
    (ho : o.op = .call { callee := .builtin .copy, args := #[d, s], argTypes := #[dT, sT] }) (elem : TypeId) (hu : P.underlying dT = some (.slice elem)) (hsz : (P.info? elem).map (·.size) = some 1)
    (g off dLen dCap : Nat) (ad : Addr) (sLen sCap : Nat) (hd : a.eval d = .slice (some ⟨g, off, none⟩) dLen dCap) (hs : a.eval s = .slice (some ad) sLen sCap)
    (cur : List Value) (t : TypeId) (hg : w.heap[g]? = some (.cells cur.toArray t (0, 0))) (cs : List Value) (hn : cs.length = Nat.min sLen dLen)
    (hsrc : ∀ j v, cs[j]? = some v → w.cell? (ad.add j) = some v) (hfit : off + cs.length ≤ cur.length) (h1 : ∀ v ∈ cs, v.oneCell' = true)
    (h : ∀ w', w'.heap[g]? = some (.cells (splice cur off cs).toArray t (0, 0)) → Keeps (fun k => k = g) w w' → K (a.put o.dst (goInt cs.length)) w') :
    if Region.wanted o (yielded ops a.tmps) = true then Oper.wp P o a w K Q else E := by
  have hw : Region.wanted o (yielded ops a.tmps) = true := by simp [Region.wanted, hgd]
  rw [if_pos hw]
  have hrun := run_copy_row (P := P) w dT sT o.type elem g off dLen dCap ad sLen sCap cur.toArray t cs hu hsz hg hn hsrc (by simpa using hfit) h1
  unfold Oper.wp
  simp [execOp, ho, resolve, invoke, builtin, hd, hs, hrun, Result.andThen]
  exact h _ (by simpa [splice] using setRow_heap w g _ _ t _ hg) (keeps_setRow _ _ _)

end
end Go.Proofs.Ytkkoldfaplonaaa
