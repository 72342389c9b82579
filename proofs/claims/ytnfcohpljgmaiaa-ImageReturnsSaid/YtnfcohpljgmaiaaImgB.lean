/- image.pages: the iterator's contract. -/
import Derived.Test.YtnfcohpljgmaiaaImgA
import Derived.Test.YtnfcohpljgmaiaaWLast
import Derived.RangeFuncNested
import Derived.RangeFuncBound
import Derived.RangeFuncCalls
import Derived.RangeFuncLeaves
import Derived.RangeFuncBox
import Derived.Shelf.Abstract
import Derived.Shelf.RegionOpen
import Derived.OwnWalkIn
import Derived.TacticsInMore
import Derived.LoopNIn
import Derived.LoopIn
import Derived.Maps.AppendAt
namespace Go.Proofs.Ytnfcohpljgmaiaa
open Go.RowKit Go.Shelf
attribute [local go_sem] Oper.semAt_some

/-! ### The pages -/
def pg (d : ByteArray) (s : Int) (i : Nat) : ByteArray := d.extract ((i : Int) * s).toNat (min ((i : Int) * s + s) (d.size : Int)).toNat
/-- What has come when k rounds are over. -/
def upto {α : Type} (f : Nat → α) (k : Nat) : List α := (List.range k).map f
/-- What the iterator asks of a round. -/
def KeepsBoxes (Bs Bd : Nat) (W W' : World) : Prop := W'.cell? ⟨Bs, 0, none⟩ = W.cell? ⟨Bs, 0, none⟩ ∧ W'.cell? ⟨Bd, 0, none⟩ = W.cell? ⟨Bd, 0, none⟩
/-- The number of a page: one of them. -/
abbrev PgNo (d : ByteArray) (s : Int) := { i : Nat // (i : Int) * s < d.size }
abbrev encP (d : ByteArray) (s : Int) (x : PgNo d s) : Array Value := #[.int .i64 (x.1 : Int), .string (pg d s x.1)]

set_option maxRecDepth 100000 in
set_option maxHeartbeats 2000000 in
theorem pages1_in (F : Fence) (n : Nat) (hF : F.fn 55) (hro : F.round = none) (hn : 1 ≤ n) (l Bs Bd : Nat) (d : ByteArray) (s : Int) (hs : 1 ≤ s) (hsz : (d.size : Int) + s ≤ 4611686018427387904)
    (J Jx : List (PgNo d s) → World → Prop)
    (hY : ∀ pre x W, J pre W → (pre.length : Int) * s < d.size → YieldAt F (n - 1) Try.prog l (encP d s x) W fun e W' =>
      (e = .returned (.bool true) ∧ J (pre ++ [x]) W' ∧ KeepsBoxes Bs Bd W W') ∨ (e = .returned (.bool false) ∧ Jx (pre ++ [x]) W'))
    (W : World) (hBs : W.cell? ⟨Bs, 0, none⟩ = some (.int .i64 s)) (hBd : W.cell? ⟨Bd, 0, none⟩ = some (.string d)) (h0 : J [] W) :
    CallsIn F n Try.prog 55 #[.func (.yield l) #[] #[], .pointer (some ⟨Bs, 0, none⟩), .pointer (some ⟨Bd, 0, none⟩)] W fun e W' => (∃ v, e = .returned v) ∧
      ((∃ ys : List (PgNo d s), (ys.map Subtype.val = List.range ys.length ∧ (d.size : Int) ≤ (ys.length : Int) * s) ∧ J ys W') ∨ (∃ pre : List (PgNo d s), (∃ k, pre.map Subtype.val = List.range k) ∧ Jx pre W')) := by
  refine callsIn_of_wp Try.func55 rfl hF ?_ hro
  simp only [Try.ntmps55, List.size_toArray, List.length_cons, List.length_nil, Nat.reduceAdd, Nat.reduceSub, Array.replicate_succ, Array.replicate_zero, List.push_toArray, List.append_toArray, List.nil_append, List.cons_append]
  gi_wp2
  gi_loopw [4] (fun i wr => ∃ (pre : List (PgNo d s)), pre.map Subtype.val = List.range pre.length ∧ i = .int .i64 (pre.length : Int) ∧ ((pre.length : Int) * s < d.size + s) ∧ J pre wr ∧ wr.cell? ⟨Bs, 0, none⟩ = some (.int .i64 s) ∧ wr.cell? ⟨Bd, 0, none⟩ = some (.string d))
    (fun i _ => d.size + 1 - (intOf i).toNat)
  case atStart => exact ⟨[], rfl, rfl, by simp; omega, h0, hBs, hBd⟩
  case round =>
    obtain ⟨pre, hpre, rfl, hk, hJs, hcs, hcd⟩ := hrel
    have hm : wrap64 ((pre.length : Int) * s) = (pre.length : Int) * s := by
      have : 0 ≤ (pre.length : Int) * s := Int.mul_nonneg (by omega) (by omega)
      unfold wrap64
      omega
    generalize hK : pre.length = k at *
    by_cases hlt : (k : Int) * s < d.size
    · obtain ⟨fn, tmps, assign, body, hy, hR⟩ := hY pre ⟨k, hlt⟩ wr hJs (by rw [hK]; exact hlt)
      dsimp only [encP, pg] at hy
      have h1 : (k : Int) ≤ (k : Int) * s := by
        have := Int.mul_le_mul_of_nonneg_left hs (show (0 : Int) ≤ k by omega)
        omega
      have hm1 : wrap64 ((k : Int) + 1) = (k : Int) + 1 := by unfold wrap64; omega
      have hm2 : wrap64 (((k : Int) + 1) * s) = ((k : Int) + 1) * s := by
        have : 0 ≤ (k : Int) * s := Int.mul_nonneg (by omega) (by omega)
        have e : ((k : Int) + 1) * s = (k : Int) * s + s := by rw [Int.add_mul, Int.one_mul]
        rw [e]
        unfold wrap64
        omega
      have e : ((k : Int) + 1) * s = (k : Int) * s + s := by rw [Int.add_mul, Int.one_mul]
      have hq1 : 0 ≤ min ((k : Int) * s + s) (d.size : Int) ∧ min ((k : Int) * s + s) (d.size : Int) ≤ (d.size : Int) := by omega
      have hq2 : 0 ≤ (k : Int) * s ∧ (k : Int) * s ≤ ((min ((k : Int) * s + s) (d.size : Int)).toNat : Int) := by omega
      gi_wp2
      refine hR.mono ?_
      rintro e W3 (⟨rfl, hJ3, hk3⟩ | ⟨rfl, hJx3⟩)
      · have hcs3 := hk3.1.trans hcs
        have hcd3 := hk3.2.trans hcd
        gi_wp2
        go_roundw
        case rel =>
          refine ⟨pre ++ [⟨k, hlt⟩], ?_, ?_, ?_, hJ3, hcs3, hcd3⟩
          · rw [List.map_append, hpre, List.length_append, hK, List.length_singleton, List.range_succ]
            rfl
          · rw [List.length_append, hK, List.length_singleton]
            rfl
          · rw [List.length_append, hK, List.length_singleton]
            have e2 : ((k + 1 : Nat) : Int) * s = (k : Int) * s + s := by rw [Int.natCast_add, Int.add_mul]; omega
            rw [e2]
            omega
        case measure => simp [intOf]; omega
      · gi_wp2
        refine bodyPost_ret (results_none rfl _ _ _) rfl ?_
        refine ⟨⟨_, rfl⟩, .inr ⟨pre ++ [⟨k, hlt⟩], ⟨k + 1, ?_⟩, hJx3⟩⟩
        rw [List.map_append, hpre, List.range_succ]
        rfl
    · gi_wp2
      go_end0
      exact ⟨⟨_, rfl⟩, .inl ⟨pre, ⟨by rw [hK]; exact hpre, by rw [hK]; omega⟩, hJs⟩⟩

set_option maxHeartbeats 1000000 in
theorem pages_in (F : Fence) (n : Nat) (hF : F.fn 35) (hro : F.round = none) (d : ByteArray) (s : Int) (w : World) :
    CallsIn F n Try.prog 35 #[.string d, .int .i64 s] w fun e w' => e = .returned (.func (.func 55) #[] #[.pointer (some ⟨w.heap.size + 1, 0, none⟩), .pointer (some ⟨w.heap.size, 0, none⟩)]) ∧ w' = (w.alloc (.cells #[.string d] 9)).alloc (.cells #[.int .i64 s] 3) := by
  refine callsIn_of_wp Try.func35 rfl hF ?_ hro
  simp only [Try.ntmps35, List.size_toArray, List.length_cons, List.length_nil, Nat.reduceAdd, Nat.reduceSub, Array.replicate_succ, Array.replicate_zero, List.push_toArray, List.append_toArray, List.nil_append, List.cons_append]
  gi_wp2
  go_ret
  exact ⟨rfl, rfl⟩

theorem pages_stops (F : Fence) (n : Nat) (hF : F.fn 55) (hro : F.round = none) (hn : 1 ≤ n) (Bs Bd : Nat) (d : ByteArray) (s : Int) (hs : 1 ≤ s) (hsz : (d.size : Int) + s ≤ 4611686018427387904) (w : World) (hBsl : Bs < w.heap.size) (hBdl : Bd < w.heap.size)
    (hBs : w.cell? ⟨Bs, 0, none⟩ = some (.int .i64 s)) (hBd : w.cell? ⟨Bd, 0, none⟩ = some (.string d)) (N : Nat) (hN : ∀ k : Nat, (k : Int) * s < d.size → k < N) :
    SeqStopsK F n Try.prog 55 #[.pointer (some ⟨Bs, 0, none⟩), .pointer (some ⟨Bd, 0, none⟩)] (encP d s) (KeepsBoxes Bs Bd)
      (fun ys => ys.map Subtype.val = List.range ys.length ∧ (d.size : Int) ≤ (ys.length : Int) * s) (fun pre => ∃ k, pre.map Subtype.val = List.range k) N w := fun l J Jx W hW _ _ hY h0 =>
  pages1_in F n hF hro hn l Bs Bd d s hs hsz J Jx (fun pre x W hJ hl => hY pre x W hJ (hN _ hl)) W ((hW.cell (p := ⟨Bs, 0, none⟩) hBsl).trans hBs) ((hW.cell (p := ⟨Bd, 0, none⟩) hBdl).trans hBd) h0

theorem keepsBoxes_t {Bs Bd : Nat} {A B C : World} (h : KeepsBoxes Bs Bd A B) (k : KeepsBoxes Bs Bd B C) : KeepsBoxes Bs Bd A C := ⟨k.1.trans h.1, k.2.trans h.2⟩
theorem keepsBoxes_b {Bs Bd m : Nat} (h1 : Bs < m) (h2 : Bd < m) (W : World) (l : Nat) (o o' : Obj) (hl : m ≤ l) (_ : W.heap[l]? = some o) (_ : o.isCells = false) (_ : o.isWalk = false) : KeepsBoxes Bs Bd W (W.putObj l o') := by
  have hb := grownBy_putObj' W l o'
  have key : ∀ B, B < m → (W.putObj l o').cell? ⟨B, 0, none⟩ = W.cell? ⟨B, 0, none⟩ := fun B hB => by
    refine World.cell?_of_block (w := W) ?_
    show (W.putObj l o').heap[B]? = W.heap[B]?
    by_cases hlt : B < W.heap.size
    · exact hb.block B hlt (fun e => by cases e; omega)
    · rw [Array.getElem?_eq_none (by have := hb.size; simp [World.putObj]; omega), Array.getElem?_eq_none (by omega)]
  exact ⟨key Bs h1, key Bd h2⟩

/-! ### A round's region, by the printed texts' steps -/
section
variable {P : Program} {ops : Array Oper} {Q : Exit → Act → World → Prop} {md : Region.Mode}
theorem rowsIn_of {n l : Nat} {row : String} {args : Array Value} {w : World} {R : Value → World → Prop} (h : Rows P row args w R) : RowsIn (Fence.wide.inRound l) n P row args w R := fun c cs _ => by
  obtain ⟨v, w', hr, hs⟩ := h c cs
  exact ⟨v, w', hr, by rw [fenced_inRound]; exact stepsIn_wide.2 hs⟩
theorem operIn_of {n l : Nat} {o : Oper} {a : Act} {w : World} {K : Act → World → Prop} (hnd : ∀ c, o.op ≠ .defer c) (h : o.wp P a w K Q) : o.wpIn (Fence.wide.inRound l) n P a w K Q := by
  refine ⟨fun _ _ => trivial, ?_⟩
  rw [Oper.semAt_eq _ _ _ hnd]
  unfold Oper.wp at h
  generalize (execOp a.eval o).run P w = r at h
  cases r with
  | ok x w' =>
    cases x <;> simp only [Oper.upon] at h <;> simp only [Oper.uponIn]
    all_goals first
      | exact h
      | exact ⟨fun hd => (Bool.false_ne_true hd).elim, CallsIn.inRound l (callsIn_wide.2 (h.mono fun e w'' he => by cases e <;> exact he))⟩
      | exact ⟨fun hd => (Bool.false_ne_true hd).elim, rowsIn_of h⟩
  | halt x w' => cases x <;> simp only [Oper.upon] at h <;> simp only [Oper.uponIn] <;> exact h
def noDeferB (ops : Array Oper) : Bool := ops.all fun o => match o.op with | .defer _ => false | _ => true
theorem anyIn_of {n l : Nat} (hnd : noDeferB ops = true) (hQ : ¬ LetsOut Q) : ∀ (fuel : Nat) (listed : Array Bool) (a : Act) (w : World), wpAny P md ops Q fuel listed a w → wpAnyIn (Fence.wide.inRound l) n P md ops Q fuel listed a w
  | 0, _, _, _, h => h
  | fuel + 1, listed, a, w, h => by
    refine ⟨h.1, fun i hi => ?_⟩
    have h2 := h.2 i hi
    unfold wpOp at h2
    unfold wpOpIn
    cases ho : ops[i]? with
    | none =>
      rw [ho] at h2
      exact anyIn_of hnd hQ fuel _ _ _ h2
    | some o =>
      rw [ho] at h2
      have hno : ∀ c, o.op ≠ .defer c := fun c hc => by
        have hm := Array.all_eq_true'.1 hnd o (Array.mem_of_getElem? ho)
        rw [hc] at hm
        cases hm
      dsimp only at h2 ⊢
      split
      · rename_i hw
        rw [if_pos hw] at h2
        rcases h2 with h2 | h2
        · exact Oper.wpIn_mono (fun a' w' h' => anyIn_of hnd hQ fuel _ _ _ h') (operIn_of hno h2)
        · exact absurd h2.2 hQ
      · rename_i hw
        rw [if_neg hw] at h2
        exact ⟨fun _ _ => trivial, anyIn_of hnd hQ fuel _ _ _ h2⟩
open Go.Proofs.YtnfcohpljgmaiaaW.PrintLast in
theorem startIn_ {id n l m : Nat} {S : World → Prop} {ds : List Nat} {a : Act} {w : World} (li : Array Bool) (hm : P.follows .mixedOrders = true) (hnd : noDeferB ops = true) (hQ : ¬ LetsOut Q) (hn : ops.size = n) (hl : Array.replicate n false = li) (hS : S w.drew)
    (h : S w.drew → wpAnyLast P .any ops Q S ds n li a w.drew) : (Code.region id ops true).wpIn (Fence.wide.inRound l) m P Q a w := by
  subst hn
  subst hl
  exact wpIn_region_any hm (anyIn_of hnd hQ _ _ _ _ (wpAny_of_last _ _ _ _ (h hS)))
end

end Go.Proofs.Ytnfcohpljgmaiaa
