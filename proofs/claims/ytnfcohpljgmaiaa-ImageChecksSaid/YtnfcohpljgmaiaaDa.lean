/- The digest's plain model; facts on worlds; regions that draw; stretches of rows. -/
import Derived.WalkKit
import Derived.Deep.Draws
import Derived.Lib.Hide
import Derived.Laws.CopyOwn
import Derived.Deep.RegionLaw
import Derived.Still
import Derived.Tactics
import Derived.Tactics2
import Derived.Lib.AppendStr
import Derived.Lib.AppendZeros
import Derived.ArgAppend
import Derived.Deep.Upon
import Derived.Lib.AppendZerosOnto
namespace Go.Proofs.Ytnfcohpljgmaiaa

/-! ### Dig -/
section
def n32 (x : UInt32) : Int := x.toNat
def rotl (x : UInt32) (s : Nat) : UInt32 := ⟨x.toBitVec.rotateLeft s⟩

structure Quad where
  a : UInt32
  b : UInt32
  c : UInt32
  d : UInt32

def mix (a b c d x y : UInt32) : Quad :=
  let a1 := a + (b + x)
  let d1 := rotl (d ^^^ a1) 16
  let c1 := c + d1
  let b1 := rotl (b ^^^ c1) 20
  let a2 := a1 + (b1 + y)
  let d2 := rotl (d1 ^^^ a2) 24
  let c2 := c1 + d2
  let b2 := rotl (b1 ^^^ c2) 25
  ⟨a2, b2, c2, d2⟩

def iv : List UInt32 := [0x6a09e667, 0xbb67ae85, 0x3c6ef372, 0xa54ff53a, 0x510e527f, 0x9b05688c, 0x1f83d9ab, 0x5be0cd19]

def lanes : List (List Nat) := [[0, 4, 8, 12], [1, 5, 9, 13], [2, 6, 10, 14], [3, 7, 11, 15], [0, 5, 10, 15], [1, 6, 11, 12], [2, 7, 8, 13], [3, 4, 9, 14]]
def laneAt (i j : Nat) : Nat := (lanes.getD i []).getD j 0

def rounds10 : List (List Nat) := [
  [0, 1, 2, 3, 4, 5, 6, 7, 8, 9, 10, 11, 12, 13, 14, 15],
  [14, 10, 4, 8, 9, 15, 13, 6, 1, 12, 0, 2, 11, 7, 5, 3],
  [11, 8, 12, 0, 5, 2, 15, 13, 10, 14, 3, 6, 7, 1, 9, 4],
  [7, 9, 3, 1, 13, 12, 11, 14, 2, 6, 5, 10, 4, 0, 15, 8],
  [9, 0, 5, 7, 2, 4, 10, 15, 14, 1, 11, 12, 6, 8, 3, 13],
  [2, 12, 6, 10, 0, 11, 8, 3, 4, 13, 7, 5, 15, 14, 1, 9],
  [12, 5, 1, 15, 14, 13, 4, 10, 0, 7, 6, 3, 9, 2, 8, 11],
  [13, 11, 7, 14, 12, 1, 3, 9, 5, 0, 15, 4, 8, 6, 2, 10],
  [6, 15, 14, 9, 11, 3, 0, 8, 12, 2, 13, 7, 1, 4, 10, 5],
  [10, 2, 8, 4, 7, 6, 1, 5, 15, 11, 9, 14, 3, 12, 13, 0]]
def schedAt (r j : Nat) : Nat := (rounds10.getD r []).getD j 0

theorem laneAt_lt (i j : Nat) : laneAt i j < 16 := by
  have h : ∀ i, i < 8 → ∀ j, j < 4 → laneAt i j < 16 := by decide
  by_cases hi : i < 8
  · by_cases hj : j < 4
    · exact h i hi j hj
    · have : (lanes.getD i []).length ≤ 4 := by
        have hl : ∀ i, i < 8 → (lanes.getD i []).length ≤ 4 := by decide
        exact hl i hi
      unfold laneAt
      rw [List.getD_eq_getElem?_getD, List.getElem?_eq_none (by omega)]
      decide
  · unfold laneAt
    have : lanes.getD i [] = [] := by
      rw [List.getD_eq_getElem?_getD, List.getElem?_eq_none (show lanes.length ≤ i from Nat.le_of_not_lt hi)]
      rfl
    rw [this]
    simp

theorem schedAt_lt (r j : Nat) : schedAt r j < 16 := by
  have h : ∀ i, i < 10 → ∀ j, j < 16 → schedAt i j < 16 := by decide
  by_cases hi : r < 10
  · by_cases hj : j < 16
    · exact h r hi j hj
    · have : (rounds10.getD r []).length ≤ 16 := by
        have hl : ∀ i, i < 10 → (rounds10.getD i []).length ≤ 16 := by decide
        exact hl r hi
      unfold schedAt
      rw [List.getD_eq_getElem?_getD, List.getElem?_eq_none (by omega)]
      decide
  · unfold schedAt
    have : rounds10.getD r [] = [] := by
      rw [List.getD_eq_getElem?_getD, List.getElem?_eq_none (show rounds10.length ≤ r from Nat.le_of_not_lt hi)]
      rfl
    rw [this]
    simp

def set4 (v : List UInt32) (i : Nat) (q : Quad) : List UInt32 :=
  (((v.set (laneAt i 0) q.a).set (laneAt i 1) q.b).set (laneAt i 2) q.c).set (laneAt i 3) q.d
def mixAt (m v : List UInt32) (r i : Nat) : Quad :=
  mix (v.getD (laneAt i 0) 0) (v.getD (laneAt i 1) 0) (v.getD (laneAt i 2) 0) (v.getD (laneAt i 3) 0) (m.getD (schedAt r (2 * i)) 0) (m.getD (schedAt r (2 * i + 1)) 0)
def step1 (m v : List UInt32) (r i : Nat) : List UInt32 := set4 v i (mixAt m v r i)
/-- The first i mixings of round r. -/
def lap (m v : List UInt32) (r : Nat) : Nat → List UInt32
  | 0 => v
  | i + 1 => step1 m (lap m v r i) r i
/-- The first r rounds. -/
def laps (m v : List UInt32) : Nat → List UInt32
  | 0 => v
  | r + 1 => lap m (laps m v r) r 8

theorem length_step1 (m v : List UInt32) (r i : Nat) : (step1 m v r i).length = v.length := by simp [step1, set4]
theorem length_lap (m v : List UInt32) (r i : Nat) : (lap m v r i).length = v.length := by
  induction i with
  | zero => rfl
  | succ i ih => rw [lap, length_step1, ih]
theorem length_laps (m v : List UInt32) (r : Nat) : (laps m v r).length = v.length := by
  induction r with
  | zero => rfl
  | succ r ih => rw [laps, length_lap, ih]

def v0 (h : List UInt32) (t : Nat) (last : Bool) : List UInt32 :=
  h ++ [0x6a09e667, 0xbb67ae85, 0x3c6ef372, 0xa54ff53a, 0x510e527f ^^^ UInt32.ofNat t, 0x9b05688c ^^^ UInt32.ofNat (t / 4294967296),
    if last then ~~~ 0x1f83d9ab else 0x1f83d9ab, 0x5be0cd19]
def fin8 (h v : List UInt32) : List UInt32 :=
  (List.range 8).map fun i => h.getD i 0 ^^^ (v.getD i 0 ^^^ v.getD (i + 8) 0)
def compress (h m : List UInt32) (t : Nat) (last : Bool) : List UInt32 := fin8 h (laps m (v0 h t last) 10)

theorem length_compress (h m : List UInt32) (t : Nat) (last : Bool) : (compress h m t last).length = 8 := by simp [compress, fin8]

/-- Byte number k, shifted to its place in its word. -/
def lift8 (c : UInt8) (k : Nat) : UInt32 := UInt32.ofNat (c.toNat * 2 ^ (8 * (k % 4)))
/-- The words behind the first k bytes. -/
def wordsN (s : List UInt8) : Nat → List UInt32
  | 0 => List.replicate 16 0
  | k + 1 => (wordsN s k).modify (k / 4) (· ||| lift8 (s.getD k 0) k)
def wordsOf (s : List UInt8) : List UInt32 := wordsN s s.length
theorem length_wordsN (s : List UInt8) (k : Nat) : (wordsN s k).length = 16 := by
  induction k with
  | zero => rfl
  | succ k ih => rw [wordsN, List.length_modify, ih]
theorem length_wordsOf (s : List UInt8) : (wordsOf s).length = 16 := length_wordsN _ _

structure St where
  chain : List UInt32
  rest : List UInt8
  count : Nat

/-- Compresses all blocks but the last one. -/
def feed (c : List UInt32) (s : List UInt8) (n : Nat) : St :=
  if 64 < s.length then feed (compress c (wordsOf (s.take 64)) (n + 64) false) (s.drop 64) (n + 64) else ⟨c, s, n⟩
termination_by s.length
decreasing_by simp; omega

/-- The same, with fuel: for reckoning. -/
def feedN : Nat → List UInt32 → List UInt8 → Nat → St
  | 0, c, s, n => ⟨c, s, n⟩
  | k + 1, c, s, n => if 64 < s.length then feedN k (compress c (wordsOf (s.take 64)) (n + 64) false) (s.drop 64) (n + 64) else ⟨c, s, n⟩

theorem feed_eq_feedN (k : Nat) : ∀ (c : List UInt32) (s : List UInt8) (n : Nat), s.length ≤ 64 * k → feed c s n = feedN k c s n := by
  induction k with
  | zero =>
    intro c s n h
    rw [feed, if_neg (by omega)]
    rfl
  | succ k ih =>
    intro c s n h
    rw [feed, feedN]
    by_cases hs : 64 < s.length
    · rw [if_pos hs, if_pos hs, ih]
      simp; omega
    · rw [if_neg hs, if_neg hs]

def byteAt (x : UInt32) (j : Nat) : UInt8 := UInt8.ofNat (x.toNat / 2 ^ (8 * j))
def bytes4 (x : UInt32) : List UInt8 := [byteAt x 0, byteAt x 1, byteAt x 2, byteAt x 3]
def bytesOf (l : List UInt32) : List UInt8 := l.flatMap bytes4

def finish (st : St) : List UInt8 := bytesOf (compress st.chain (wordsOf st.rest) (st.count + st.rest.length) true)

def chain0 (k : Nat) : List UInt32 := [0x6a09e667 ^^^ (16842784 + 256 * UInt32.ofNat k), 0xbb67ae85, 0x3c6ef372, 0xa54ff53a, 0x510e527f, 0x9b05688c, 0x1f83d9ab, 0x5be0cd19]
def padKey (key : List UInt8) : List UInt8 := if key = [] then [] else key ++ List.replicate (64 - key.length) 0
def start0 (key : List UInt8) : St := ⟨chain0 key.length, padKey key, 0⟩
def take1 (st : St) (s : List UInt8) : St := feed st.chain (st.rest ++ s) st.count
def keyed (key s : List UInt8) : List UInt8 := finish (take1 (start0 key) s)
def dsum (s : List UInt8) : List UInt8 := keyed [] s

theorem dsum_reckon (k : Nat) (s : List UInt8) (h : s.length ≤ 64 * k) : dsum s = finish (feedN k (chain0 0) s 0) := by
  rw [← feed_eq_feedN k _ _ _ h]
  rfl

def hexDigit (n : Nat) : UInt8 := if n < 10 then UInt8.ofNat (48 + n) else UInt8.ofNat (87 + n)
end

/-! ### Base -/
section
open Go.RowKit

theorem below_drewN {B : Nat} {w W : World} (h : Below B w W) (n : Nat) : Below B w (W.drewN n) := ⟨h.os, h.tape, h.output, h.size, h.block⟩
theorem below_undrew {B : Nat} {W V : World} (h : Below B W.drew V) : Below B W V := ⟨h.os, h.tape, h.output, h.size, h.block⟩
theorem bcell {W w1 : World} (hb : Below W.heap.size W w1) : (∀ b o, b < W.heap.size → w1.cell? ⟨b, o, none⟩ = W.cell? ⟨b, o, none⟩) ∧ (∀ b o, b < W.heap.size → w1.frozen? ⟨b, o, none⟩ = W.frozen? ⟨b, o, none⟩) :=
  ⟨fun b o h => hb.cell (p := ⟨b, o, none⟩) h, fun b o h => hb.frozen (p := ⟨b, o, none⟩) h⟩
/-- What a callee leaves, seen from where its caller began. -/
theorem below_then {B : Nat} {w w1 w2 : World} (h : Below B w w1) (hB : B ≤ w1.heap.size) (k : Below w1.heap.size w1 w2) : Below B w w2 := h.trans (k.mono hB)

theorem ret_i64 {a b : Int} (h : a = b) : Ending.returned (.int .i64 a) = .returned (.int .i64 b) := by rw [h]
/-- What most contracts say: this value is returned; of what was there nothing has changed. -/
def Ret (v : Value) (w : World) : Ending → World → Prop := fun e w' => e = .returned v ∧ Below w.heap.size w w'

/-- The cell of a block that is known whole. -/
theorem cell_of {w : World} {b : Nat} {c : Array Value} {t : TypeId} {f : Nat × Nat} (h : w.heap[b]? = some (.cells c t f)) (o : Nat) : w.cell? ⟨b, o, none⟩ = c[o]? := by
  simp [World.cell?, h]
theorem frozen_of {w : World} {b : Nat} {c : Array Value} {t : TypeId} (h : w.heap[b]? = some (.cells c t (0, 0))) (o : Nat) : w.frozen? ⟨b, o, none⟩ = false := by
  simp [World.frozen?, h]
theorem lt_of_block {w : World} {b : Nat} {o : Obj} (h : w.heap[b]? = some o) : b < w.heap.size := (Array.getElem?_eq_some_iff.1 h).1
theorem heap_new (w : World) (o : Obj) : (w.alloc o).heap[w.heap.size]? = some o := heap_alloc_new w o
theorem heap_old {w : World} {b : Nat} {x : Obj} (h : w.heap[b]? = some x) (o : Obj) : (w.alloc o).heap[b]? = some x := by
  rw [Below.heap_alloc _ _ _ (lt_of_block h)]
  exact h
theorem heap_below {w w' : World} {b B : Nat} {x : Obj} (h : w.heap[b]? = some x) (hb : Below B w w') (hB : b < B) : w'.heap[b]? = some x := by
  rw [hb.block b hB]
  exact h
theorem heap_set {w : World} {b : Nat} {c : Array Value} {t : TypeId} {f : Nat × Nat} (h : w.heap[b]? = some (.cells c t f)) (o : Nat) (u : Value) :
    (w.setCell ⟨b, o, none⟩ u).heap[b]? = some (.cells (c.setIfInBounds o u) t f) := by
  simp [World.setCell, Array.getElem?_modify, h]
theorem heap_set_other {w : World} {b : Nat} {a : Addr} {x : Obj} (h : w.heap[b]? = some x) (hne : b ≠ a.block) (u : Value) : (w.setCell a u).heap[b]? = some x := by
  rw [Below.heap_setCell _ _ _ _ hne]
  exact h

theorem news_of {w : World} {b : Nat} {l : List Value} {t : TypeId} {f : Nat × Nat} (h : w.heap[b]? = some (.cells l.toArray t f)) : ∀ j v, l[j]? = some v → w.cell? ((⟨b, 0, none⟩ : Addr).add j) = some v := by
  intro j v hv
  have e : (⟨b, 0, none⟩ : Addr).add j = ⟨b, j, none⟩ := by
    unfold Addr.add
    split
    · simp_all
    · simp
  rw [e, cell_of h]
  simpa using hv

/-- The world has grown; of what was there only the blocks of S may have changed. -/
structure Keeps (S : Nat → Prop) (w w' : World) : Prop where
  os : w'.os = w.os
  tape : w'.tape = w.tape
  output : w'.output = w.output
  size : w.heap.size ≤ w'.heap.size
  block : ∀ k, k < w.heap.size → ¬ S k → w'.heap[k]? = w.heap[k]?
theorem Keeps.refl (S : Nat → Prop) (w : World) : Keeps S w w := ⟨rfl, rfl, rfl, Nat.le_refl _, fun _ _ _ => rfl⟩
theorem Keeps.trans {S : Nat → Prop} {a b c : World} (h : Keeps S a b) (k : Keeps S b c) : Keeps S a c :=
  ⟨k.os.trans h.os, k.tape.trans h.tape, k.output.trans h.output, Nat.le_trans h.size k.size,
    fun i hi hn => (k.block i (Nat.lt_of_lt_of_le hi h.size) hn).trans (h.block i hi hn)⟩
theorem Keeps.weak {S T : Nat → Prop} {w w' : World} (h : Keeps S w w') (hst : ∀ k, k < w.heap.size → S k → T k) : Keeps T w w' :=
  ⟨h.os, h.tape, h.output, h.size, fun k hk hn => h.block k hk fun hs => hn (hst k hk hs)⟩
theorem Keeps.below {S : Nat → Prop} {w w' : World} (h : Keeps S w w') {B : Nat} (hB : B ≤ w.heap.size) (hS : ∀ k, S k → B ≤ k) : Below B w w' :=
  ⟨h.os, h.tape, h.output, h.size, fun k hk => h.block k (Nat.lt_of_lt_of_le hk hB) fun hs => by have := hS k hs; omega⟩
theorem Keeps.of_below {S : Nat → Prop} {w w' : World} (h : Below w.heap.size w w') : Keeps S w w' := ⟨h.os, h.tape, h.output, h.size, fun k hk _ => h.block k hk⟩
theorem Keeps.alloc {S : Nat → Prop} {a w : World} (h : Keeps S a w) (o : Obj) : Keeps S a (w.alloc o) :=
  h.trans ⟨rfl, rfl, rfl, by simp, fun k hk _ => Below.heap_alloc _ _ _ hk⟩
theorem Keeps.drew {S : Nat → Prop} {a w : World} (h : Keeps S a w) : Keeps S a w.drew := ⟨h.os, h.tape, h.output, h.size, h.block⟩
theorem Keeps.drewN {S : Nat → Prop} {a w : World} (h : Keeps S a w) (n : Nat) : Keeps S a (w.drewN n) := ⟨h.os, h.tape, h.output, h.size, h.block⟩
theorem Keeps.setCell {S : Nat → Prop} {a w : World} (h : Keeps S a w) {p : Addr} (hp : p.block < a.heap.size → S p.block) (u : Value) : Keeps S a (w.setCell p u) :=
  ⟨h.os, h.tape, h.output, by simpa using h.size, fun k hk hn => by
    by_cases e : k = p.block
    · subst e
      exact absurd (hp hk) hn
    · rw [Below.heap_setCell _ _ _ _ e]
      exact h.block k hk hn⟩
theorem Keeps.grown {S : Nat → Prop} {w w' : World} {row : Option Nat} (hg : w.grownBy w' row) (hr : ∀ k, row = some k → S k) : Keeps S w w' :=
  ⟨hg.os, hg.tape, hg.output, hg.size, fun k hk hn => hg.block k hk fun e => hn (hr k e.symm)⟩
theorem Keeps.heap {S : Nat → Prop} {w w' : World} (h : Keeps S w w') {b : Nat} {x : Obj} (hx : w.heap[b]? = some x) (hn : ¬ S b) : w'.heap[b]? = some x := by
  rw [h.block b (lt_of_block hx) hn]
  exact hx
end

/-! ### Ops -/
section
open Go.RowKit

section
variable {P : Program}

theorem run_index_one {t e : TypeId} {n : Nat} {cs : Array Value} (ht : P.underlying t = some (.array n e)) (ha : ∀ w, (isAgg e).run P w = .ok false w)
    (hz : (P.info? e).map (·.size) = some 1) (i : Nat) (hlt : i < n) (v : Value) (hv : cs[i]? = some v) (w : World) :
    (Instr.index t (.agg cs) (.int .i64 (i : Int))).run P w = .ok v w := by
  obtain ⟨inf, hi, h1⟩ := Option.map_eq_some_iff.1 hz
  simp [Instr.index, asIntOf, run_underlying ht, sizeOf, typeInfo, hi, h1, part, ha, hlt, hv]

theorem run_index_agg {t e : TypeId} {n s : Nat} {cs : Array Value} (ht : P.underlying t = some (.array n e)) (ha : ∀ w, (isAgg e).run P w = .ok true w)
    (hz : (P.info? e).map (·.size) = some s) (i : Nat) (hlt : i < n) (cs' : Array Value) (hv : cs.extract (i * s) (i * s + s) = cs') (w : World) :
    (Instr.index t (.agg cs) (.int .i64 (i : Int))).run P w = .ok (.agg cs') w := by
  obtain ⟨inf, hi, h1⟩ := Option.map_eq_some_iff.1 hz
  simp [Instr.index, asIntOf, run_underlying ht, sizeOf, typeInfo, hi, h1, part, ha, hlt, hv]

theorem keeps_setRow (w : World) (g : Nat) (cs : Array Value) : Keeps (fun k => k = g) w (w.setRow g cs) :=
  ⟨rfl, rfl, rfl, by simp [World.setRow], fun k _ hn => setRow_other w g k cs hn⟩

/-- copy between two rows, as a step of a region that draws: what it leaves of all other blocks is told. -/
theorem step_copy_keeps {ops : Array Oper} {o : Oper} {a : Act} {w : World} {K : Act → World → Prop} {Q : Exit → Act → World → Prop} {E : Prop} (hgd : o.guard = none) (d s : Operand) (dT sT : TypeId)
    (ho : o.op = .call { callee := .builtin .copy, args := #[d, s], argTypes := #[dT, sT] }) (elem : TypeId) (hu : P.underlying dT = some (.slice elem)) (hsz : (P.info? elem).map (·.size) = some 1)
    (g off dLen dCap : Nat) (ad : Addr) (sLen sCap : Nat) (hd : a.eval d = .slice (some ⟨g, off, none⟩) dLen dCap) (hs : a.eval s = .slice (some ad) sLen sCap)
    (cur : List Value) (t : TypeId) (hg : w.heap[g]? = some (.cells cur.toArray t (0, 0))) (cs : List Value) (hn : cs.length = Nat.min sLen dLen)
    (hsrc : ∀ j v, cs[j]? = some v → w.cell? (ad.add j) = some v) (hfit : off + cs.length ≤ cur.length) (h1 : ∀ v ∈ cs, v.oneCell' = true)
    (h : ∀ w', w'.heap[g]? = some (.cells (splice cur off cs).toArray t (0, 0)) → Keeps (fun k => k = g) w w' → K (a.put o.dst (goInt cs.length)) w') :
    if Region.wanted o (yielded ops a.tmps) = true then Oper.wp P o a w K Q else E := by
  have hw : Region.wanted o (yielded ops a.tmps) = true := by simp [Region.wanted, hgd]
  rw [if_pos hw]
  have hrun := run_copy_row (P := P) w dT sT o.type elem g off dLen dCap ad sLen sCap cur.toArray t cs hu hsz hg hn hsrc (by simpa using hfit) h1
  unfold Oper.wp
  simp [execOp, ho, resolve, invoke, builtin, hd, hs, hrun, Result.andThen]
  exact h _ (by simpa [splice] using setRow_heap w g _ _ t _ hg) (keeps_setRow _ _ _)

end
end

/-! ### Reg -/
section
open Go.RowKit

/-- A world in which, seen from w, there is new memory and nothing else. -/
def Ext (w : World) : Type := { w' : World // Below w.heap.size w w' }
instance (w : World) : Nonempty (Ext w) := ⟨⟨w, Below.refl _ _⟩⟩
def Ext.v {w : World} (x : Ext w) : World := x.1
theorem Ext.below {w : World} (x : Ext w) : Below w.heap.size w x.v := x.2
theorem Ext.cell {w : World} (x : Ext w) (b o : Nat) (h : b < w.heap.size) : x.v.cell? ⟨b, o, none⟩ = w.cell? ⟨b, o, none⟩ := x.below.cell (p := ⟨b, o, none⟩) h
theorem Ext.frozen {w : World} (x : Ext w) (b o : Nat) (h : b < w.heap.size) : x.v.frozen? ⟨b, o, none⟩ = w.frozen? ⟨b, o, none⟩ := x.below.frozen (p := ⟨b, o, none⟩) h
theorem Ext.heap {w : World} (x : Ext w) (b : Nat) (h : b < w.heap.size) : x.v.heap[b]? = w.heap[b]? := x.below.block b h

section
variable {P : Program} {ops : Array Oper} {w0 : World} {md : Region.Mode}

def extUpon (P : Program) (w : World) (v : Value) : Result Next → Prop
  | .ok (.value u) w' => w' = w ∧ u = v
  | .ok .skip w' => w' = w ∧ v = undef
  | .ok (.enter f args) w' => w' = w ∧ Calls P f args w (Ret v w)
  | _ => False

def extAt (P : Program) (o : Oper) (a : Act) (w : World) (v : Value) : Prop := extUpon P w v ((execOp a.eval o).run P w)

/-- Operation o, number k, in the text's order: number m is the one that makes a variable. -/
def extOp (P : Program) (ops : Array Oper) (w0 : World) (m k : Nat) (o : Oper) (K : Act → Prop) (a : Act) : Prop :=
  if k = m then ∀ x, K (a.put o.dst x)
  else if Region.wanted o (yielded ops a.tmps) then ∃ v, (∀ x : Ext w0, extAt P o a x.v v) ∧ K (a.put o.dst v)
  else K (a.put o.dst undef)

theorem extOp_mono {m k : Nat} {o : Oper} {a : Act} {K K' : Act → Prop} (h : ∀ a, K a → K' a) (hh : extOp P ops w0 m k o K a) : extOp P ops w0 m k o K' a := by
  unfold extOp at *
  split
  · rename_i e
    rw [if_pos e] at hh
    exact fun x => h _ (hh x)
  · rename_i e
    rw [if_neg e] at hh
    split
    · rename_i e2
      rw [if_pos e2] at hh
      obtain ⟨v, h1, h2⟩ := hh
      exact ⟨v, h1, h _ h2⟩
    · rename_i e2
      rw [if_neg e2] at hh
      exact h _ hh

/-- Whatever order is taken from here on, till the front (the first n) is done: f operations of it are left. -/
def anyX (P : Program) (md : Region.Mode) (ops : Array Oper) (w0 : World) (m n : Nat) (done : Array Bool) (Q : Act → Prop) : Nat → Array Bool → Act → Prop
  | 0, listed, a => listed = done ∧ Q a
  | f + 1, listed, a => Region.ready md ops listed ≠ [] ∧ ∀ i ∈ Region.ready md ops listed, i < n ∧ ∃ o, ops[i]? = some o ∧ extOp P ops w0 m i o (anyX P md ops w0 m n done Q f (listed.setIfInBounds i true)) a

/-- In frame a operation o, number k, yields v (in every world of the class), or is passed over. -/
def GivesX (P : Program) (ops : Array Oper) (w0 : World) (o : Oper) (v : Value) (a : Act) : Prop :=
  (Region.wanted o (yielded ops a.tmps) = true ∧ ∀ x : Ext w0, extAt P o a x.v v) ∨ (Region.wanted o (yielded ops a.tmps) = false ∧ v = undef)

theorem GivesX.of_same {o : Oper} {v : Value} {a a' : Act} (hy : GivesX P ops w0 o v a) (he : execOp a'.eval o = execOp a.eval o)
    (hw : Region.wanted o (yielded ops a'.tmps) = Region.wanted o (yielded ops a.tmps)) : GivesX P ops w0 o v a' := by
  unfold GivesX extAt at *
  rw [he, hw]
  exact hy

theorem GivesX.op {m k : Nat} {o : Oper} {v : Value} {a : Act} (hk : k ≠ m) (hy : GivesX P ops w0 o v a) {K : Act → Prop} (h : K (a.put o.dst v)) : extOp P ops w0 m k o K a := by
  unfold extOp
  rw [if_neg hk]
  rcases hy with ⟨hw, hv⟩ | ⟨hw, rfl⟩
  · rw [if_pos hw]
    exact ⟨v, hv, h⟩
  · rw [if_neg (by simp [hw])]
    exact h

theorem givesX_of_op {m k : Nat} {o : Oper} {a : Act} {K : Act → Prop} (hk : k ≠ m) (h : extOp P ops w0 m k o K a) : ∃ v, GivesX P ops w0 o v a ∧ K (a.put o.dst v) := by
  unfold extOp at h
  rw [if_neg hk] at h
  by_cases hw : Region.wanted o (yielded ops a.tmps) = true
  · rw [if_pos hw] at h
    obtain ⟨v, h1, h2⟩ := h
    exact ⟨v, .inl ⟨hw, h1⟩, h2⟩
  · rw [if_neg hw] at h
    exact ⟨undef, .inr ⟨by simpa using hw, rfl⟩, h⟩

/-- Operation oj, apart from oi: whether oi's value is already there makes no difference to it, and it makes none to oi. -/
theorem extOp_put {m j : Nat} {oi oj : Oper} {v : Value} (hap : oi.apart ops oj = true)
    (hsi : ∀ cs b, oi.op ≠ .select cs b) (hsj : ∀ cs b, oj.op ≠ .select cs b) {K : Act → Prop} {a : Act}
    (hy : GivesX P ops w0 oi v a) (h : extOp P ops w0 m j oj K (a.put oi.dst v)) :
    extOp P ops w0 m j oj (fun a' => GivesX P ops w0 oi v a' ∧ K (a'.put oi.dst v)) a := by
  obtain ⟨h1, h2, h3⟩ := Oper.apart_spec hap
  have keep : ∀ u, GivesX P ops w0 oi v (a.put oj.dst u) := fun u =>
    hy.of_same (execOp_put oi hsi a oj.dst u h3) (wanted_put oi a oj.dst u h3)
  have comm : ∀ u, (a.put oj.dst u).put oi.dst v = (a.put oi.dst v).put oj.dst u := fun u => (Act.put_comm a v u h2).symm
  unfold extOp at *
  split
  · rename_i e
    rw [if_pos e] at h
    intro x
    exact ⟨keep x, by rw [comm]; exact h x⟩
  · rename_i e
    rw [if_neg e, wanted_put oj a oi.dst v h1] at h
    split
    · rename_i hw
      rw [if_pos hw] at h
      obtain ⟨u, hu, hn⟩ := h
      refine ⟨u, fun x => ?_, keep u, by rw [comm]; exact hn⟩
      have := hu x
      unfold extAt at *
      rwa [execOp_put oj hsj a oi.dst v h1] at this
    · rename_i hw
      rw [if_neg hw] at h
      exact ⟨keep _, by rw [comm]; exact h⟩

/-- Every operation behind the front waits for all of the front. -/
def waitsAll (md : Region.Mode) (ops : Array Oper) (n : Nat) : Bool :=
  (List.range ops.size).all fun t => decide (t < n) || match ops[t]? with
    | some o => (List.range n).all fun i => o.after.any fun e => Region.binds md e && e.on == i
    | none => true

theorem waitsAll_spec {n : Nat} {listed : Array Bool} (h : waitsAll md ops n = true) {i j : Nat} (hi : i < n) (hun : listed.getD i false = false) (hj : j ∈ Region.ready md ops listed) : j < n := by
  rcases Nat.lt_or_ge j n with hlt | hge
  · exact hlt
  · exfalso
    obtain ⟨_, o, ho, hall⟩ := mem_ready.1 hj
    have hjs : j < ops.size := (Array.getElem?_eq_some_iff.1 ho).1
    unfold waitsAll at h
    have h1 := List.all_eq_true.1 h j (List.mem_range.2 hjs)
    simp only [ho, Bool.or_eq_true, decide_eq_true_eq] at h1
    rcases h1 with h1 | h1
    · omega
    · have h2 := List.all_eq_true.1 h1 i (List.mem_range.2 hi)
      obtain ⟨e, he, hb⟩ := Array.any_eq_true'.1 h2
      simp only [Bool.and_eq_true, beq_iff_eq] at hb
      have h3 := hall e he hb.1
      rw [hb.2, hun] at h3
      cases h3

theorem getD_true_false {listed : Array Bool} {i : Nat} (h : listed.getD i true = false) : listed.getD i false = false := by
  rcases Nat.lt_or_ge i listed.size with h' | h'
  · simp [h'] at h ⊢
    exact h
  · simp [Array.getElem?_eq_none h'] at h

theorem anyX_first {m n i : Nat} {done : Array Bool} {oi : Oper} {v : Value} {Q : Act → Prop} (hi : ops[i]? = some oi) (him : i ≠ m) (hin : i < n)
    (hsel : ∀ (j : Nat) (o : Oper) cs b, ops[j]? = some o → o.op ≠ .select cs b) (hwait : waitsAll md ops n = true)
    (hdone : ∀ j, j < n → done.getD j true = true) :
    ∀ (f : Nat) (listed : Array Bool) (a : Act),
      (∀ j oj, ops[j]? = some oj → j ≠ i → listed.getD j true = false → (∀ e ∈ oj.after, Region.binds md e = true → e.on ≠ i) → oi.apart ops oj = true) →
      i ∈ Region.ready md ops listed → GivesX P ops w0 oi v a →
      anyX P md ops w0 m n done Q f (listed.setIfInBounds i true) (a.put oi.dst v) → anyX P md ops w0 m n done Q (f + 1) listed a := by
  intro f
  induction f with
  | zero =>
    intro listed a _ hr hy H
    have hun := getD_true_false (mem_ready.1 hr).1
    refine ⟨fun h => (by rw [h] at hr; cases hr), fun j hj => ?_⟩
    have hjn := waitsAll_spec hwait hin hun hj
    by_cases hji : j = i
    · subst hji
      exact ⟨hjn, oi, hi, hy.op him H⟩
    · exfalso
      have h1 := (mem_ready.1 hj).1
      rw [← getD_set_ne true (Ne.symm hji), H.1, hdone j hjn] at h1
      cases h1
  | succ f ih =>
    intro listed a hfree hr hy H
    have hun := getD_true_false (mem_ready.1 hr).1
    refine ⟨fun h => (by rw [h] at hr; cases hr), fun j hj => ?_⟩
    have hjn := waitsAll_spec hwait hin hun hj
    refine ⟨hjn, ?_⟩
    by_cases hji : j = i
    · subst hji
      exact ⟨oi, hi, hy.op him H⟩
    · obtain ⟨oj, hoj, h1⟩ := (H.2 j (ready_mono hj hji)).2
      obtain ⟨hjun, oj', hoj', hall⟩ := mem_ready.1 hj
      obtain rfl : oj = oj' := Option.some.inj (hoj.symm.trans hoj')
      have hnot : ∀ e ∈ oj.after, Region.binds md e = true → e.on ≠ i := fun e he hb heq => by
        have h1 := hall e he hb
        rw [heq, hun] at h1
        cases h1
      have h2 := extOp_put (hfree j oj hoj hji hjun hnot) (fun cs b => hsel i oi cs b hi) (fun cs b => hsel j oj cs b hoj) hy h1
      have hfree' : ∀ k ok, ops[k]? = some ok → k ≠ i → (listed.setIfInBounds j true).getD k true = false →
          (∀ e ∈ ok.after, Region.binds md e = true → e.on ≠ i) → oi.apart ops ok = true := fun k ok hk hki hun' hno => by
        refine hfree k ok hk hki ?_ hno
        by_cases hjk : j = k
        · subst hjk
          exact hjun
        · rw [getD_set_ne true hjk] at hun'
          exact hun'
      refine ⟨oj, hoj, extOp_mono (fun a' h3 => ih (listed.setIfInBounds j true) a' hfree' (ready_mono hr (Ne.symm hji)) h3.1 ?_) h2⟩
      rw [Array.setIfInBounds_comm _ _ hji]
      exact h3.2

/-- The walk in the text's order. -/
def wpX (P : Program) (ops : Array Oper) (w0 : World) (m : Nat) (Q : Act → Prop) : List Oper → Nat → Act → Prop
  | [], _, a => Q a
  | o :: rest, k, a => extOp P ops w0 m k o (wpX P ops w0 m Q rest (k + 1)) a

/-- In the text's order each of the front may come up, and whatever has not come up yet waits for it or is apart from it; number m, if any, is the last. -/
def frontB (md : Region.Mode) (ops : Array Oper) (m : Nat) (done : Array Bool) : Nat → Nat → Array Bool → Bool
  | 0, _, listed => listed == done
  | f + 1, k, listed => (Region.ready md ops listed).contains k && ((k != m && Region.free md ops listed k) || (k == m && f == 0 && Region.ready md ops listed == [k])) && frontB md ops m done f (k + 1) (listed.setIfInBounds k true)

theorem anyX_front {m n : Nat} {done : Array Bool} {Q : Act → Prop} (hs : Region.noSelect ops = true) (hwait : waitsAll md ops n = true) (hdone : ∀ j, j < n → done.getD j true = true) :
    ∀ (l : List Oper) (k : Nat) (listed : Array Bool) (a : Act), (∀ j, j < l.length → l[j]? = ops[k + j]?) → k + l.length = n →
    frontB md ops m done l.length k listed = true → wpX P ops w0 m Q l k a → anyX P md ops w0 m n done Q l.length listed a
  | [], _, _, _, _, _, hB, h => ⟨by simpa [frontB] using hB, h⟩
  | o :: l, k, listed, a, hl, hn, hB, h => by
    have h0 : ops[k]? = some o := by simpa using (hl 0 (by simp)).symm
    simp only [List.length_cons, frontB, Bool.and_eq_true, Bool.or_eq_true, bne_iff_ne, ne_eq, beq_iff_eq] at hB
    obtain ⟨⟨hr, hc⟩, hB'⟩ := hB
    have hr' : k ∈ Region.ready md ops listed := by simpa using hr
    have hkn : k < n := by simp at hn; omega
    have hl' : ∀ j, j < l.length → l[j]? = ops[k + 1 + j]? := fun j hj => by have := hl (j + 1) (by simp; omega); simpa [Nat.add_assoc, Nat.add_comm 1 j] using this
    have hst : extOp P ops w0 m k o (wpX P ops w0 m Q l (k + 1)) a := h
    rcases hc with ⟨hkm, hf⟩ | ⟨⟨hkm, hf⟩, hone⟩
    · obtain ⟨v, hy, hK⟩ := givesX_of_op hkm hst
      exact anyX_first h0 hkm hkn (Region.noSelect_spec hs) hwait hdone l.length listed a (Region.free_spec h0 hf) hr' hy
        (anyX_front hs hwait hdone l (k + 1) _ _ hl' (by simp at hn; omega) hB' hK)
    · have hl0 : l = [] := List.eq_nil_of_length_eq_zero hf
      subst hl0
      refine ⟨fun e => (by rw [e] at hr'; cases hr'), fun i hi => ?_⟩
      rw [hone] at hi
      obtain rfl : i = k := by simpa using hi
      refine ⟨hkn, o, h0, extOp_mono (fun a' ha' => ?_) hst⟩
      exact ⟨by simpa [frontB] using hB', ha'⟩

theorem getD_rep (m j : Nat) : (Array.replicate m false).getD j false = false := by
  rcases Nat.lt_or_ge j m with h | h
  · simp [h]
  · simp [h]

/-- From a walk over frames to the run itself. -/
theorem size_put (a : Act) (d : Option Tmp) (u : Value) : (a.put d u).tmps.size = a.tmps.size := by
  cases d <;> simp [Act.put]

theorem any_of_X {m n g s : Nat} {done : Array Bool} {Q : Act → Prop} {Q' : Exit → Act → World → Prop} {A : Value → World → Prop} (dm : Operand)
    (hA : ∀ v w w', A v w → Below w.heap.size w w' → A v w')
    (hm : ∀ om, ops[m]? = some om → om.guard = none ∧ ∀ (a : Act) (x : Ext w0), a.tmps.size = s → ∃ u w', (execOp a.eval om).run P x.v = .ok (.value u) w' ∧ Below x.v.heap.size x.v w' ∧ A u w' ∧ (a.put om.dst u).eval dm = u)
    (hd : ∀ i o, ops[i]? = some o → i < n → i ≠ m → ∀ (a : Act) u, (a.put o.dst u).eval dm = a.eval dm)
    (hmn : m < n → m < ops.size)
    (hQ : ∀ a w, Below w0.heap.size w0 w → (m < n → A (a.eval dm) w) → Q a → wpAny P md ops Q' g done a w)
    (hdone : done.size = ops.size) :
    ∀ (f : Nat) (listed : Array Bool) (a : Act) (w : World), Below w0.heap.size w0 w → a.tmps.size = s → listed.size = ops.size → (m < n → listed.getD m false = true → A (a.eval dm) w) →
    (∀ j, j < n → done.getD j false = true) → anyX P md ops w0 m n done Q f listed a → wpAny P md ops Q' (f + g) listed a w
  | 0, listed, a, w, hb, _, _, hl, hdt, h => by
    rw [Nat.zero_add, h.1]
    exact hQ a w hb (fun hmn' => hl hmn' (by rw [h.1]; exact hdt m hmn')) h.2
  | f + 1, listed, a, w, hb, has, hsz, hl, hdt, h => by
    rw [show f + 1 + g = (f + g) + 1 by omega]
    refine ⟨fun h0 => absurd h0 h.1, fun i hi => ?_⟩
    obtain ⟨hin, o, ho, hop⟩ := h.2 i hi
    have hrec := any_of_X dm hA hm hd hmn hQ hdone f (listed.setIfInBounds i true)
    have his : i < listed.size := by rw [hsz]; exact (Array.getElem?_eq_some_iff.1 ho).1
    unfold wpOp
    simp only [ho]
    by_cases him : i = m
    · subst him
      obtain ⟨hg, hrun⟩ := hm o ho
      obtain ⟨u, w', hr, hbw, hau, hev⟩ := hrun a ⟨w, hb⟩ has
      have hr' : (execOp a.eval o).run P w = .ok (.value u) w' := hr
      have hbw' : Below w.heap.size w w' := hbw
      unfold extOp at hop
      rw [if_pos rfl] at hop
      rw [if_pos (by simp [Region.wanted, hg])]
      left
      unfold Oper.wp
      rw [hr']
      exact hrec _ _ (below_then hb hb.size hbw') (by rw [size_put]; exact has) (by simpa using hsz) (fun _ _ => by rw [hev]; exact hau) hdt (hop u)
    · unfold extOp at hop
      rw [if_neg him] at hop
      have hset : m < n → (listed.setIfInBounds i true).getD m false = true → listed.getD m false = true := fun _ hx => by rwa [getD_set_ne false him] at hx
      by_cases hw : Region.wanted o (yielded ops a.tmps) = true
      · rw [if_pos hw] at hop ⊢
        obtain ⟨v, hv, hK⟩ := hop
        have hx := hv ⟨w, hb⟩
        unfold extAt Ext.v at hx
        left
        unfold Oper.wp
        generalize (execOp a.eval o).run P w = r at hx
        have hfin : ∀ w'', Below w.heap.size w w'' → wpAny P md ops Q' (f + g) (listed.setIfInBounds i true) (a.put o.dst v) w'' := fun w'' hbw =>
          hrec _ _ (below_then hb hb.size hbw) (by rw [size_put]; exact has) (by simpa using hsz) (fun h1 h2 => by rw [hd i o ho hin him]; exact hA _ _ _ (hl h1 (hset h1 h2)) hbw) hdt hK
        cases r with
        | ok nx w' =>
          cases nx <;> simp only [extUpon] at hx <;> simp only [Oper.upon]
          case value u =>
            obtain ⟨rfl, rfl⟩ := hx
            exact hfin _ (Below.refl _ _)
          case skip =>
            obtain ⟨rfl, rfl⟩ := hx
            exact hfin _ (Below.refl _ _)
          case enter fn args =>
            obtain ⟨rfl, hc⟩ := hx
            exact hc.mono fun e w'' ⟨he, hbw⟩ => by subst he; exact hfin _ hbw
        | halt x w' => simp only [extUpon] at hx
      · rw [if_neg hw] at hop ⊢
        exact hrec _ _ hb (by rw [size_put]; exact has) (by simpa using hsz) (fun h1 h2 => by rw [hd i o ho hin him]; exact hl h1 (hset h1 h2)) hdt hop

/-- Behind the front all goes in one order. -/
def tailB (md : Region.Mode) (ops : Array Oper) : Nat → Nat → Array Bool → Bool
  | 0, _, listed => Region.ready md ops listed == []
  | f + 1, k, listed => Region.ready md ops listed == [k] && tailB md ops f (k + 1) (listed.setIfInBounds k true)

theorem any_tail {Q' : Exit → Act → World → Prop} : ∀ (l : List Oper) (k : Nat) (listed : Array Bool) (a : Act) (w : World), (∀ j, j < l.length → l[j]? = ops[k + j]?) → tailB md ops l.length k listed = true →
    wpList P ops Q' l a w → wpAny P md ops Q' l.length listed a w
  | [], _, _, _, _, _, hB, h => ⟨by simpa [tailB] using hB, h⟩
  | o :: l, k, listed, a, w, hl, hB, h => by
    have h0 : ops[k]? = some o := by simpa using (hl 0 (by simp)).symm
    simp only [List.length_cons, tailB, Bool.and_eq_true, beq_iff_eq] at hB
    have hl' : ∀ j, j < l.length → l[j]? = ops[k + 1 + j]? := fun j hj => by have := hl (j + 1) (by simp; omega); simpa [Nat.add_assoc, Nat.add_comm 1 j] using this
    refine ⟨fun e => (by rw [hB.1] at e; cases e), fun i hi => ?_⟩
    rw [hB.1] at hi
    obtain rfl : i = k := by simpa using hi
    have hop : wpOp P ops Q' i (wpList P ops Q' l) a w := by
      unfold wpOp
      simp only [h0]
      exact h
    exact wpOp_mono (fun a' w' h' => any_tail l (i + 1) _ a' w' hl' hB.2 h') hop

def doneArr (n size : Nat) : Array Bool := ((List.range size).map fun i => decide (i < n)).toArray
def extB (ops : Array Oper) (n m : Nat) : Bool :=
  decide (n ≤ ops.size) && Region.noSelect ops && waitsAll .any ops n && frontB .any ops m (doneArr n ops.size) n 0 (Array.replicate ops.size false) && tailB .any ops (ops.size - n) n (doneArr n ops.size)

theorem doneArr_size (n size : Nat) : (doneArr n size).size = size := by simp [doneArr]
theorem doneArr_getD (n size j : Nat) (d : Bool) (h : j < n) (hn : n ≤ size) : (doneArr n size).getD j d = true := by
  have : j < size := by omega
  simp [doneArr, this, h]

theorem wp_region_any_ext {id n m : Nat} {Q : Exit → Act → World → Prop} {a : Act} {w : World} {l : List Oper} {A : Value → World → Prop} (dm : Operand) (hmo : P.follows .mixedOrders = true) (hB : extB l.toArray n m = true)
    (hA : ∀ v w w', A v w → Below w.heap.size w w' → A v w')
    (hm : ∀ om, l.toArray[m]? = some om → om.guard = none ∧ ∀ (a' : Act) (x : Ext w.drew), a'.tmps.size = a.tmps.size → ∃ u w', (execOp a'.eval om).run P x.v = .ok (.value u) w' ∧ Below x.v.heap.size x.v w' ∧ A u w' ∧ (a'.put om.dst u).eval dm = u)
    (hd : ∀ i o, l.toArray[i]? = some o → i < n → i ≠ m → ∀ (a : Act) u, (a.put o.dst u).eval dm = a.eval dm)
    (hmn : m < n → m < l.length)
    (h : wpX P l.toArray w.drew m (fun a' => ∀ x : Ext w.drew, (m < n → A (a'.eval dm) x.v) → wpList P l.toArray Q (l.drop n) a' x.v) (l.take n) 0 a) : (Code.region id l.toArray true).wp P Q a w := by
  simp only [extB, Bool.and_eq_true, decide_eq_true_eq] at hB
  obtain ⟨⟨⟨⟨hn, hs⟩, hwait⟩, hfront⟩, htail⟩ := hB
  have hn' : n ≤ l.length := by simpa using hn
  refine wp_region_any hmo ?_
  have hlen : l.toArray.size = n + (l.toArray.size - n) := by omega
  have hX := anyX_front (md := .any) hs hwait (fun j hj => doneArr_getD n _ j true hj hn) (l.take n) 0 (Array.replicate l.toArray.size false) a
    (fun j hj => by rw [Nat.zero_add, List.getElem?_take_of_lt (by simp at hj; omega)]; simp) (by simp; omega) (by rw [List.length_take, Nat.min_eq_left hn']; exact hfront) h
  rw [List.length_take, Nat.min_eq_left hn'] at hX
  have hgo : wpAny P .any l.toArray Q (n + (l.toArray.size - n)) (Array.replicate l.toArray.size false) a w.drew := ?_
  · rw [← hlen] at hgo
    exact hgo
  refine any_of_X (w0 := w.drew) (g := l.toArray.size - n) dm hA hm hd (by simpa using hmn) (fun a' w' hb hl hq => ?_) (doneArr_size _ _) n _ a _ (Below.refl _ _) rfl (by simp) ?_ (fun j hj => doneArr_getD n _ j false hj hn) hX
  · have e : l.toArray.size - n = (l.drop n).length := by simp
    rw [e]
    exact any_tail (l.drop n) n _ a' w' (fun j hj => by simp [List.getElem?_drop]) (by rw [← e]; exact htail) (hq ⟨w', hb⟩ hl)
  · intro _ hx
    rw [getD_rep] at hx
    cases hx

/-- No allocation beside the others: the first n operations read, reckon and call; the rest follows in its one order. -/
theorem wp_region_ext {id : Nat} (n : Nat) {Q : Exit → Act → World → Prop} {a : Act} {w : World} {l : List Oper} (hmo : P.follows .mixedOrders = true) (hB : extB l.toArray n l.length = true)
    (h : wpX P l.toArray w.drew l.length (fun a' => ∀ x : Ext w.drew, wpList P l.toArray Q (l.drop n) a' x.v) (l.take n) 0 a) : (Code.region id l.toArray true).wp P Q a w := by
  have hB' := hB
  simp only [extB, Bool.and_eq_true, decide_eq_true_eq] at hB'
  have hn' : n ≤ l.length := by simpa using hB'.1.1.1.1
  refine wp_region_any_ext (A := fun _ _ => True) (.const undef) hmo hB (fun _ _ _ _ _ => trivial) (fun om ho => ?_) (fun i o _ _ _ a u => rfl) (fun h => by omega) ?_
  · rw [List.getElem?_toArray, List.getElem?_eq_none (Nat.le_refl _)] at ho
    cases ho
  · have e : (fun a' : Act => ∀ x : Ext w.drew, (l.length < n → (fun _ _ => True) (a'.eval (.const undef)) x.v) → wpList P l.toArray Q (l.drop n) a' x.v) = fun a' => ∀ x : Ext w.drew, wpList P l.toArray Q (l.drop n) a' x.v := by
      funext a'
      simp
    rw [e]
    exact h

/-- One variable is made beside the others: the last operation of the front. -/
theorem wp_region_alloc {id : Nat} (n d : Nat) (T : TypeId) (zs : Array Value) {Q : Exit → Act → World → Prop} {a : Act} {w : World} {l : List Oper} {om : Oper} (hmo : P.follows .mixedOrders = true) (hB : extB l.toArray (n + 1) n = true)
    (hom : l[n]? = some om) (hg : om.guard = none) (hdst : om.dst = some d) (hds : ((l.take n).all fun o => o.dst != some d) = true) (hlen : d < a.tmps.size)
    (hrun : ∀ (a : Act) (w : World), (execOp a.eval om).run P w = .ok (.value (.pointer (some ⟨w.heap.size, 0, none⟩))) (w.alloc (.cells zs T)))
    (h : wpX P l.toArray w.drew n (fun a' => ∀ (x : Ext w.drew) (b : Nat), w.heap.size ≤ b → x.v.heap[b]? = some (.cells zs T (0, 0)) → a'.eval (.tmp d) = .pointer (some ⟨b, 0, none⟩) → wpList P l.toArray Q (l.drop (n + 1)) a' x.v) (l.take (n + 1)) 0 a) : (Code.region id l.toArray true).wp P Q a w := by
  have hnl : n < l.length := (List.getElem?_eq_some_iff.1 hom).1
  refine wp_region_any_ext (A := fun u w' => ∃ b, u = .pointer (some ⟨b, 0, none⟩) ∧ w.heap.size ≤ b ∧ w'.heap[b]? = some (.cells zs T (0, 0))) (.tmp d) hmo hB ?_ ?_ ?_ (fun _ => hnl) ?_
  · rintro v w1 w2 ⟨b, rfl, hb, hz⟩ hbw
    exact ⟨b, rfl, hb, heap_below hz hbw (lt_of_block hz)⟩
  · intro om' ho'
    rw [List.getElem?_toArray, hom] at ho'
    obtain rfl : om = om' := Option.some.inj ho'
    refine ⟨hg, fun a' x hs => ⟨_, _, hrun a' x.v, (Below.refl _ _).alloc (Nat.le_refl _) _, ⟨_, rfl, x.below.size, heap_new _ _⟩, ?_⟩⟩
    rw [hdst]
    have : d < a'.tmps.size := by omega
    simp [Act.put, Act.eval, this]
  · intro i o ho hin him a' u
    rw [List.getElem?_toArray] at ho
    have h1 : o ∈ l.take n := List.mem_iff_getElem?.2 ⟨i, by rw [List.getElem?_take_of_lt (by omega)]; exact ho⟩
    have h2 := List.all_eq_true.1 hds o h1
    exact Act.eval_put fun d' hd' e => by
      injection e with e
      subst e
      rw [hd'] at h2
      simp at h2
  · have e : (fun a' : Act => ∀ x : Ext w.drew, (n < n + 1 → (fun u (w' : World) => ∃ b, u = Value.pointer (some ⟨b, 0, none⟩) ∧ w.heap.size ≤ b ∧ w'.heap[b]? = some (.cells zs T (0, 0))) (a'.eval (.tmp d)) x.v) → wpList P l.toArray Q (l.drop (n + 1)) a' x.v) =
        fun a' => ∀ (x : Ext w.drew) (b : Nat), w.heap.size ≤ b → x.v.heap[b]? = some (.cells zs T (0, 0)) → a'.eval (.tmp d) = .pointer (some ⟨b, 0, none⟩) → wpList P l.toArray Q (l.drop (n + 1)) a' x.v := by
      funext a'
      apply propext
      constructor
      · intro hh x b hb hz he
        exact hh x fun _ => ⟨b, he, hb, hz⟩
      · intro hh x hx
        obtain ⟨b, he, hb, hz⟩ := hx (by omega)
        exact hh x b hb hz he
    rw [e]
    exact h

/-- One operation at a time. -/
theorem wpX_step {m k : Nat} {Q : Act → Prop} {a : Act} {o : Oper} {rest : List Oper}
    (h : ∀ K : Act → Prop, (∀ a, wpX P ops w0 m Q rest (k + 1) a → K a) → extOp P ops w0 m k o K a) : wpX P ops w0 m Q (o :: rest) k a :=
  h _ (fun _ h => h)
theorem wpX_nil {m k : Nat} {Q : Act → Prop} {a : Act} (h : Q a) : wpX P ops w0 m Q [] k a := h

end
attribute [go_sem] extOp extAt extUpon Ext.cell Ext.frozen
end

/-! ### Seg -/
section
open Go.RowKit Go.Lib

/-- The slice v is nil and xs is empty, or v begins somewhere in a row from block base on, which nobody else writes, and its cells are xs. -/
def Seg (w : World) (base : Nat) (e : TypeId) (v : Value) (xs : List Value) : Prop :=
  (v = .slice none 0 0 ∧ xs = []) ∨
  ∃ g off cap cur, v = .slice (some ⟨g, off, none⟩) xs.length cap ∧ base ≤ g ∧ w.heap[g]? = some (.cells cur e (0, 0)) ∧ xs.length ≤ cap ∧ off + cap ≤ cur.size ∧ cap ≤ maxLen ∧ ∀ j, j < xs.length → cur[off + j]? = xs[j]?

theorem Seg.nil (w : World) (base : Nat) (e : TypeId) : Seg w base e (.slice none 0 0) [] := .inl ⟨rfl, rfl⟩

theorem Seg.lt {w : World} {base : Nat} {e : TypeId} {v : Value} {xs : List Value} (h : Seg w base e v xs) : ∀ k, v.ownBlock = some k → base ≤ k ∧ k < w.heap.size := by
  intro k hk
  rcases h with ⟨rfl, _⟩ | ⟨g, off, cap, cur, rfl, hb, hg, _⟩
  · simp [Value.ownBlock] at hk
  · simp [Value.ownBlock] at hk
    subst hk
    exact ⟨hb, lt_of_block hg⟩

theorem Seg.kept {w w' : World} {base : Nat} {e : TypeId} {v : Value} {xs : List Value} (h : Seg w base e v xs) {S : Nat → Prop} (hk : Keeps S w w') (hn : ∀ k, v.ownBlock = some k → ¬ S k) : Seg w' base e v xs := by
  rcases h with h | ⟨g, off, cap, cur, rfl, hb, hg, rest⟩
  · exact .inl h
  · exact .inr ⟨g, off, cap, cur, rfl, hb, hk.heap hg (hn g rfl), rest⟩
theorem Seg.below {w w' : World} {base : Nat} {e : TypeId} {v : Value} {xs : List Value} (h : Seg w base e v xs) (hb : Below w.heap.size w w') : Seg w' base e v xs :=
  h.kept (S := fun _ => False) (Keeps.of_below hb) (fun _ _ h => h)
theorem Seg.mono {w : World} {base base' : Nat} {e : TypeId} {v : Value} {xs : List Value} (h : Seg w base e v xs) (hb : base' ≤ base) : Seg w base' e v xs := by
  rcases h with h | ⟨g, off, cap, cur, rfl, hg, rest⟩
  · exact .inl h
  · exact .inr ⟨g, off, cap, cur, rfl, by omega, rest⟩

theorem Seg.form {w : World} {base : Nat} {e : TypeId} {v : Value} {xs : List Value} (h : Seg w base e v xs) : ∃ a cap, v = .slice a xs.length cap ∧ xs.length ≤ cap ∧ cap ≤ maxLen ∧ ∀ j u, xs[j]? = some u → ∃ g off, a = some ⟨g, off, none⟩ ∧ w.cell? ⟨g, off + j, none⟩ = some u := by
  rcases h with ⟨rfl, rfl⟩ | ⟨g, off, cap, cur, rfl, hb, hg, hc, hs, hm, hx⟩
  · exact ⟨none, 0, rfl, by simp, by simp [maxLen], fun j u hu => by simp at hu⟩
  · refine ⟨_, cap, rfl, hc, hm, fun j u hu => ⟨g, off, rfl, ?_⟩⟩
    have hj : j < xs.length := (List.getElem?_eq_some_iff.1 hu).1
    rw [cell_of hg, hx j hj, hu]

/-- A cut from the front. -/
theorem Seg.drop {w : World} {base : Nat} {e : TypeId} {g off cap : Nat} {xs : List Value} {n : Nat} (h : Seg w base e (.slice (some ⟨g, off, none⟩) n cap) xs) (k : Nat) (hk : k ≤ n) :
    Seg w base e (.slice (if cap = k then some ⟨g, off, none⟩ else some ⟨g, off + k, none⟩) (n - k) (cap - k)) (xs.drop k) := by
  rcases h with ⟨h, _⟩ | ⟨g', off', cap', cur, hv, hb, hg, hc, hs, hm, hx⟩
  · cases h
  · injection hv with h1 h2 h3
    injection h1 with h1
    injection h1 with h1 h4
    subst h1 h2 h3 h4
    by_cases hck : cap = k
    · rw [if_pos hck]
      have hn : xs.length = k := by omega
      refine .inr ⟨g, off, cap - k, cur, by simp, hb, hg, by simp; omega, by omega, by omega, fun j hj => by simp at hj; omega⟩
    · rw [if_neg hck]
      refine .inr ⟨g, off + k, cap - k, cur, by simp, hb, hg, by simp; omega, by omega, by omega, fun j hj => ?_⟩
      simp only [List.length_drop] at hj
      rw [Nat.add_assoc, hx (k + j) (by omega), List.getElem?_drop]

section
variable {P : Program} (w : World)

theorem seg_room {base : Nat} {e : TypeId} {g off cap : Nat} {cur : Array Value} {xs news : List Value} (hb : base ≤ g) (hg : w.heap[g]? = some (.cells cur e (0, 0))) (hm : cap ≤ maxLen)
    (hc : xs.length + news.length ≤ cap) (hs : off + cap ≤ cur.size) (hx : ∀ j, j < xs.length → cur[off + j]? = xs[j]?) :
    Seg (w.setRow g (cur.toList.take (off + xs.length) ++ news ++ cur.toList.drop (off + xs.length + news.length)).toArray) base e (.slice (some ⟨g, off, none⟩) (xs.length + news.length) cap) (xs ++ news) ∧
    Keeps (fun k => some k = (Value.slice (some ⟨g, off, none⟩) xs.length cap).ownBlock) w (w.setRow g (cur.toList.take (off + xs.length) ++ news ++ cur.toList.drop (off + xs.length + news.length)).toArray) := by
  refine ⟨.inr ⟨g, off, cap, _, by simp, hb, setRow_heap w g cur _ e _ hg, by simpa using hc, ?_, hm, fun j hj => ?_⟩, ⟨rfl, rfl, rfl, by simp [World.setRow], fun k _ hk => setRow_other w g k _ (fun e => hk (by simp [Value.ownBlock, e]))⟩⟩
  · simp only [List.size_toArray, List.length_append, List.length_take, List.length_drop, Array.length_toList]
    omega
  · simp only [List.length_append] at hj
    rw [List.getElem?_toArray, List.append_assoc]
    by_cases hjx : j < xs.length
    · rw [List.getElem?_append_left (by simp; omega), List.getElem?_take_of_lt (by omega), List.getElem?_append_left hjx]
      simpa using hx j hjx
    · have e1 : (cur.toList.take (off + xs.length)).length = off + xs.length := by simp; omega
      rw [List.getElem?_append_right (by omega), e1, List.getElem?_append_left (by omega), List.getElem?_append_right (by omega)]
      congr 1
      omega

theorem seg_grow {base : Nat} {e : TypeId} {xs news : List Value} (need cap : Nat) (zs : Array Value) (hbase : base ≤ w.heap.size) (hn : need = xs.length + news.length) (hge : need ≤ cap) (hm : cap ≤ maxLen) (hz : zs.size = cap - need) (row : Nat → Prop) :
    Seg (w.drew.alloc (.cells (xs.toArray ++ news.toArray ++ zs) e)) base e (.slice (some ⟨w.heap.size, 0, none⟩) need cap) (xs ++ news) ∧
    Keeps row w (w.drew.alloc (.cells (xs.toArray ++ news.toArray ++ zs) e)) := by
  refine ⟨.inr ⟨w.heap.size, 0, cap, _, by simp [hn], hbase, heap_alloc_new w.drew _, by simp; omega, by simp [hz]; omega, hm, fun j hj => ?_⟩, ⟨rfl, rfl, rfl, by simp, fun k hk _ => Below.heap_alloc w.drew _ k hk⟩⟩
  simp only [List.length_append] at hj
  rw [Nat.zero_add, Array.getElem?_append_left (by simp; omega)]
  simp

/-- append(v, s...), s a string. -/
theorem run_append_seg_string (base : Nat) (t u ty e : TypeId) (i : TypeInfo) (ht : P.underlying t = some (.slice e)) (hu : P.underlying u = some .string) (hi : P.info? e = some i) (hz : i.zero = some (.int .u8 0))
    (hsize : i.size = 1) (hby : i.bytes = 1) (v : Value) (xs : List Value) (hown : Seg w base e v xs) (s : ByteArray)
    (h47 : xs.length + s.size ≤ 140737488355328) (hbase : base ≤ w.heap.size) :
    ∃ v' w', (Builtin.append_ #[t, u] ty #[v, .string s]).run P w = .ok v' w' ∧ Seg w' base e v' (xs ++ strCells s) ∧ Keeps (fun k => some k = v.ownBlock) w w' ∧ (v'.ownBlock = v.ownBlock ∨ v'.ownBlock = some w.heap.size) := by
  have hml : (140737488355328 : Nat) ≤ maxLen := by simp [maxLen]
  have hz1 : (Value.int IntKind.u8 0).cells.size = 1 := rfl
  rcases hown with ⟨rfl, rfl⟩ | ⟨g, off, cap, cur, rfl, hbg, hg, hnc, hcs, hcm, hx⟩
  · by_cases hm : s.size = 0
    · have hn : strCells s = [] := List.eq_nil_of_length_eq_zero (by rw [strCells_length]; exact hm)
      refine ⟨.slice none 0 0, w, ?_, by rw [hn]; exact Seg.nil w base e, Keeps.refl _ _, .inl rfl⟩
      have hf := run_firstCells_string (P := P) w 1 s
      rw [hm] at hf
      simp [Builtin.append_, run_underlying ht, run_underlying hu, sizeOf, typeInfo, hi, hsize, Builtin.lenOf, hm, hf]
    · have hr := run_append_nil_string (P := P) w t u ty e i (.int .u8 0) ht hu hi hz s (by omega) (by simp at h47; omega) (by rw [hby]; simp at h47; omega)
      have e1 : (s.data.map fun b => Value.int .u8 b.toNat) = (strCells s).toArray := by
        apply Array.ext'
        simp [strCells]
      rw [e1] at hr
      have hgr := seg_grow w (base := base) (e := e) (xs := []) (news := strCells s) s.size (grownCap w s.size 0 e) (Builtin.zeroCells (Value.int .u8 0).cells (grownCap w s.size 0 e - s.size)) hbase (by simp [strCells_length])
        (grownCap_ge w s.size 0 e) (grownCap_le_maxLen w s.size 0 e (by simp at h47; omega)) (by rw [size_zeroCells, hz1, Nat.mul_one]) (fun k => some k = (Value.slice none 0 0).ownBlock)
      simp only [Array.empty_append, List.nil_append] at hgr
      exact ⟨_, _, hr, hgr.1, hgr.2, .inr rfl⟩
  · by_cases hroom : xs.length + s.size ≤ cap
    · have hf := run_firstCells_string (P := P) w 1 s
      have hst := run_storeCells_at P g (off + xs.length) e (strCells s) 0 cur w hg (by simp [strCells_length]; omega) (strCells_oneCell s)
      simp only [Nat.add_zero, strCells_length] at hst
      have hadd : (⟨g, off, none⟩ : Addr).add xs.length = ⟨g, off + xs.length, none⟩ := by
        unfold Addr.add
        split
        · rename_i h0
          rw [h0, Nat.add_zero]
        · rfl
      have hr : (Builtin.append_ #[t, u] ty #[.slice (some ⟨g, off, none⟩) xs.length cap, .string s]).run P w =
          .ok (.slice (some ⟨g, off, none⟩) (xs.length + s.size) cap) (w.setRow g (cur.toList.take (off + xs.length) ++ strCells s ++ cur.toList.drop (off + xs.length + s.size)).toArray) := by
        simp [Builtin.append_, run_underlying ht, run_underlying hu, sizeOf, typeInfo, hi, hsize, Builtin.lenOf, hroom, hf, hadd, hst]
      have h := seg_room w (xs := xs) (news := strCells s) hbg hg hcm (by rw [strCells_length]; exact hroom) hcs hx
      rw [strCells_length] at h
      exact ⟨_, _, hr, h.1, h.2, .inl rfl⟩
    · have holds : ∀ j u, xs[j]? = some u → w.cell? ((⟨g, off, none⟩ : Addr).add j) = some u := by
        intro j u hu'
        have hj : j < xs.length := (List.getElem?_eq_some_iff.1 hu').1
        have hadd : (⟨g, off, none⟩ : Addr).add j = ⟨g, off + j, none⟩ := by
          unfold Addr.add
          split
          · rename_i h0
            rw [h0, Nat.add_zero]
          · rfl
        rw [hadd, cell_of hg, hx j hj, hu']
      have hr := run_append_grow_string (P := P) w t u ty e i (.int .u8 0) ht hu hi hz ⟨g, off, none⟩ xs.length cap xs (by rw [hsize]; simp) holds s (by omega) (by omega) (by rw [hby]; exact growslice_fits (by omega) (by omega))
      have hgr := seg_grow w (base := base) (e := e) (xs := xs) (news := strCells s) (xs.length + s.size) (grownCap w (xs.length + s.size) cap e) (Builtin.zeroCells (Value.int .u8 0).cells (grownCap w (xs.length + s.size) cap e - (xs.length + s.size))) hbase (by simp [strCells_length])
        (grownCap_ge w _ cap e) (grownCap_le_maxLen w _ cap e (by omega)) (by rw [size_zeroCells, hz1, Nat.mul_one]) (fun k => some k = (Value.slice (some ⟨g, off, none⟩) xs.length cap).ownBlock)
      exact ⟨_, _, hr, hgr.1, hgr.2, .inr rfl⟩

/-- The operation, for the walk. -/
theorem wpList_append_seg_string {ops : Array Oper} {rest : List Oper} {o : Oper} {a : Act} {Q : Exit → Act → World → Prop} (hgd : o.guard = none) (sl x : Operand) (t u : TypeId)
    (ho : o.op = .call { callee := .builtin .append, args := #[sl, x], argTypes := #[t, u] })
    (base : Nat) (e : TypeId) (i : TypeInfo) (ht : P.underlying t = some (.slice e)) (hu : P.underlying u = some .string) (hi : P.info? e = some i) (hz : i.zero = some (.int .u8 0)) (hsize : i.size = 1) (hby : i.bytes = 1)
    (v : Value) (xs : List Value) (hs : a.eval sl = v) (hown : Seg w base e v xs) (s : ByteArray) (hx : a.eval x = .string s)
    (h47 : xs.length + s.size ≤ 140737488355328) (hbase : base ≤ w.heap.size)
    (h : ∀ v' w', Seg w' base e v' (xs ++ strCells s) → Keeps (fun k => some k = v.ownBlock) w w' → (v'.ownBlock = v.ownBlock ∨ v'.ownBlock = some w.heap.size) → wpList P ops Q rest (a.put o.dst v') w') : wpList P ops Q (o :: rest) a w := by
  obtain ⟨v', w', hr, h1, h2, h3⟩ := run_append_seg_string (P := P) w base t u o.type e i ht hu hi hz hsize hby v xs hown s h47 hbase
  exact wpList_append_run w hgd sl x t u ho v (.string s) hs hx v' w' hr (h v' w' h1 h2 h3)

end
end

/-! ### Segs -/
section
open Go.RowKit Go.Lib

section
variable {P : Program} (w : World)

theorem addr_add (g off j : Nat) : (⟨g, off, none⟩ : Addr).add j = ⟨g, off + j, none⟩ := by
  unfold Addr.add
  split
  · rename_i h0
    rw [h0, Nat.add_zero]
  · rfl

/-- What such a slice yields to an append. -/
theorem Seg.src {base : Nat} {e tx e' : TypeId} {v : Value} {xs : List Value} (h : Seg w base e v xs) (hk : P.underlying tx = some (.slice e')) (h1 : ∀ u ∈ xs, u.oneCell' = true) : Src P 1 tx v xs.length xs w := by
  rcases h with ⟨rfl, rfl⟩ | ⟨g, off, cap, cur, rfl, hb, hg, hc, hs, hm, hx⟩
  · exact Src.ofNil w hk 0
  · refine Src.ofSlice w hk ⟨g, off, none⟩ xs.length cap xs (by simp) (fun j u hu => ?_) h1
    have hj : j < xs.length := (List.getElem?_eq_some_iff.1 hu).1
    rw [addr_add, cell_of hg, hx j hj, hu]

/-- append(v, x...), whatever the source. -/
theorem run_append_seg (base : Nat) (t tx ty e : TypeId) (i : TypeInfo) (z : Value) (ht : P.underlying t = some (.slice e)) (hi : P.info? e = some i) (hz : i.zero = some z)
    (hsize : i.size = 1) (hzc : z.cells.size = 1) (v : Value) (xs : List Value) (hown : Seg w base e v xs) (x : Value) (n : Nat) (news : List Value) (hs : Src P 1 tx x n news w)
    (h63 : xs.length + n ≤ maxLen) (h47 : (xs.length + n) * i.bytes ≤ 140737488355328) (hbase : base ≤ w.heap.size) :
    ∃ v' w', (Builtin.append_ #[t, tx] ty #[v, x]).run P w = .ok v' w' ∧ Seg w' base e v' (xs ++ news) ∧ Keeps (fun k => some k = v.ownBlock) w w' ∧ (v'.ownBlock = v.ownBlock ∨ v'.ownBlock = some w.heap.size) := by
  have hnl : news.length = n := by rw [hs.newsLen, Nat.mul_one]
  have h63' : ((xs.length + n : Nat) : Int) ≤ 9223372036854775807 := by simp only [maxLen] at h63; omega
  have hs1 : Src P i.size tx x n news w := by rw [hsize]; exact hs
  have grow : ∀ (a : Option Addr) (cap : Nat), v = .slice a xs.length cap → cap < xs.length + n → (Builtin.firstCells i.size xs.length (.slice a xs.length cap)).run P w.drew = .ok xs.toArray w.drew →
      ∃ v' w', (Builtin.append_ #[t, tx] ty #[v, x]).run P w = .ok v' w' ∧ Seg w' base e v' (xs ++ news) ∧ Keeps (fun k => some k = v.ownBlock) w w' ∧ (v'.ownBlock = v.ownBlock ∨ v'.ownBlock = some w.heap.size) := by
    rintro a cap rfl hlt hold
    have hr := run_append_grow_src (P := P) w t tx ty e i z ht hi hz a xs.length cap xs hold x n news hs1 hlt h63' (growslice_fits hlt h47)
    have hg := seg_grow w (base := base) (e := e) (xs := xs) (news := news) (xs.length + n) (grownCap w (xs.length + n) cap e) (Builtin.zeroCells z.cells (grownCap w (xs.length + n) cap e - (xs.length + n))) hbase (by rw [hnl])
      (grownCap_ge w _ cap e) (grownCap_le_maxLen w _ cap e h63) (by rw [size_zeroCells, hzc, Nat.mul_one]) (fun k => some k = (Value.slice a xs.length cap).ownBlock)
    have e1 : xs.toArray ++ news.toArray = (xs ++ news).toArray := by simp
    rw [e1] at hg
    exact ⟨_, _, hr, hg.1, hg.2, .inr rfl⟩
  rcases hown with ⟨rfl, rfl⟩ | ⟨g, off, cap, cur, rfl, hbg, hg, hnc, hcs, hcm, hx⟩
  · by_cases hn : n = 0
    · subst hn
      obtain rfl := List.eq_nil_of_length_eq_zero hnl
      exact ⟨_, _, run_append_nothing w t tx ty e i ht hi none 0 0 (Nat.le_refl _) x hs1, by simpa using Seg.nil w base e, Keeps.refl _ _, .inl rfl⟩
    · exact grow none 0 rfl (by simp; omega) (run_firstCells_none _ _ _ _ _)
  · by_cases hroom : xs.length + n ≤ cap
    · have hst := run_storeCells_at P g (off + xs.length) e news 0 cur w hg (by omega) hs.one
      simp only [Nat.add_zero, hnl] at hst
      have hr : (Builtin.append_ #[t, tx] ty #[.slice (some ⟨g, off, none⟩) xs.length cap, x]).run P w =
          .ok (.slice (some ⟨g, off, none⟩) (xs.length + n) cap) (w.setRow g (cur.toList.take (off + xs.length) ++ news ++ cur.toList.drop (off + xs.length + n)).toArray) := by
        rcases hs.kind with ⟨e', hk⟩ | hk <;> simp [Builtin.append_, run_underlying ht, run_underlying hk, sizeOf, typeInfo, hi, hsize, hs.len, hroom, hs.cells, addr_add, hst]
      have h := seg_room w (xs := xs) (news := news) hbg hg hcm (by rw [hnl]; exact hroom) hcs hx
      rw [hnl] at h
      exact ⟨_, _, hr, h.1, h.2, .inl rfl⟩
    · refine grow _ cap rfl (by omega) ?_
      rw [hsize]
      have := run_firstCells_some (P := P) w.drew 1 xs.length ⟨g, off, none⟩ xs.length cap xs (by simp) (fun j u hu => by
        have hj : j < xs.length := (List.getElem?_eq_some_iff.1 hu).1
        rw [addr_add]
        show w.cell? _ = _
        rw [cell_of hg, hx j hj, hu])
      exact this

theorem zeroCells_one (z : Value) (n : Nat) (hz : z.cells = #[z]) : Builtin.zeroCells z.cells n = (List.replicate n z).toArray := by
  unfold Builtin.zeroCells
  rw [hz]
  apply Array.ext'
  apply List.ext_getElem
  · simp
  · intro j h1 h2
    simp [Nat.mod_one]

/-- append(v, make([]T, n)...), n at least one. -/
theorem run_append_seg_zeros (base : Nat) (t tn ty e : TypeId) (i : TypeInfo) (z : Value) (kn kq : IntKind) (ht : P.underlying t = some (.slice e)) (htn : P.underlying tn = some (.int kn)) (hi : P.info? e = some i) (hz : i.zero = some z)
    (hsize : i.size = 1) (hzc : z.cells = #[z]) (hz1 : z.oneCell' = true) (v : Value) (xs : List Value) (hown : Seg w base e v xs) (n : Nat) (h0 : 0 < n)
    (h63 : xs.length + n ≤ maxLen) (h47 : (xs.length + n) * i.bytes ≤ 140737488355328) (hbase : base ≤ w.heap.size) :
    ∃ v' w', (Builtin.append_ #[t, tn] ty #[v, .int kq n]).run P w = .ok v' w' ∧ Seg w' base e v' (xs ++ List.replicate n z) ∧ Keeps (fun k => some k = v.ownBlock) w w' ∧ (v'.ownBlock = v.ownBlock ∨ v'.ownBlock = some w.heap.size) := by
  have h63' : ((xs.length + n : Nat) : Int) ≤ 9223372036854775807 := by simp only [maxLen] at h63; omega
  have h48 : n * i.bytes ≤ 281474976710656 := by
    have : n * i.bytes ≤ (xs.length + n) * i.bytes := Nat.mul_le_mul_right _ (by omega)
    omega
  have grow : ∀ (a : Option Addr) (cap : Nat), v = .slice a xs.length cap → cap < xs.length + n → (Builtin.firstCells i.size xs.length (.slice a xs.length cap)).run P w.drew = .ok xs.toArray w.drew →
      ∃ v' w', (Builtin.append_ #[t, tn] ty #[v, .int kq n]).run P w = .ok v' w' ∧ Seg w' base e v' (xs ++ List.replicate n z) ∧ Keeps (fun k => some k = v.ownBlock) w w' ∧ (v'.ownBlock = v.ownBlock ∨ v'.ownBlock = some w.heap.size) := by
    rintro a cap rfl hlt hold
    have hr := run_append_grow_zeros (P := P) w t tn ty e i z kq kn ht htn hi hz a xs.length cap xs hold n h0 (by omega) hlt h63' h48 (growslice_fits hlt h47)
    have hg := seg_grow w (base := base) (e := e) (xs := xs) (news := List.replicate n z) (xs.length + n) (grownCap w (xs.length + n) cap e) (Builtin.zeroCells z.cells (grownCap w (xs.length + n) cap e - (xs.length + n))) hbase (by rw [List.length_replicate])
      (grownCap_ge w _ cap e) (grownCap_le_maxLen w _ cap e h63) (by rw [size_zeroCells, hzc]; simp) (fun k => some k = (Value.slice a xs.length cap).ownBlock)
    rw [← zeroCells_one z n hzc] at hg
    exact ⟨_, _, hr, hg.1, hg.2, .inr rfl⟩
  rcases hown with ⟨rfl, rfl⟩ | ⟨g, off, cap, cur, rfl, hbg, hg, hnc, hcs, hcm, hx⟩
  · exact grow none 0 rfl (by simp; omega) (run_firstCells_none _ _ _ _ _)
  · by_cases hroom : xs.length + n ≤ cap
    · have hst := run_storeCells_at P g (off + xs.length) e (List.replicate n z) 0 cur w hg (by simp; omega) (fun u hu => by rw [List.eq_of_mem_replicate hu]; exact hz1)
      simp only [Nat.add_zero, List.length_replicate] at hst
      have hw : IntKind.i64.wrap (n : Int) = n := by rw [IntKind.wrap_i64]; omega
      have h48i : ¬ (281474976710656 < (n : Int) * (i.bytes : Int)) := by
        rw [← Int.natCast_mul]
        omega
      have hneg : ¬ ((n : Int) < 0) := by omega
      have hn : n ≠ 0 := by omega
      have hr : (Builtin.append_ #[t, tn] ty #[.slice (some ⟨g, off, none⟩) xs.length cap, .int kq n]).run P w =
          .ok (.slice (some ⟨g, off, none⟩) (xs.length + n) cap) (w.setRow g (cur.toList.take (off + xs.length) ++ List.replicate n z ++ cur.toList.drop (off + xs.length + n)).toArray) := by
        simp [Builtin.append_, run_underlying ht, run_underlying htn, sizeOf, typeInfo, zeroValue, hi, hz, hsize, asInt, asIntOf, hw, hn, hneg, h48i, hroom, addr_add, zeroCells_one z n hzc, hst]
      have h := seg_room w (xs := xs) (news := List.replicate n z) hbg hg hcm (by rw [List.length_replicate]; exact hroom) hcs hx
      rw [List.length_replicate] at h
      exact ⟨_, _, hr, h.1, h.2, .inl rfl⟩
    · refine grow _ cap rfl (by omega) ?_
      rw [hsize]
      have := run_firstCells_some (P := P) w.drew 1 xs.length ⟨g, off, none⟩ xs.length cap xs (by simp) (fun j u hu => by
        have hj : j < xs.length := (List.getElem?_eq_some_iff.1 hu).1
        rw [addr_add]
        show w.cell? _ = _
        rw [cell_of hg, hx j hj, hu])
      exact this

end
end

end Go.Proofs.Ytnfcohpljgmaiaa
