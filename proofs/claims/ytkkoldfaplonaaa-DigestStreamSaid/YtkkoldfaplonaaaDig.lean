/- The plain model of the digest (BLAKE2s with 32 bytes): words, blocks, the chain, and what strings come to. No program in sight. -/
import Derived.WalkKit
namespace Go.Proofs.Ytkkoldfaplonaaa

def n32 (x : UInt32) : Int := x.toNat
theorem n32_nonneg (x : UInt32) : 0 ≤ n32 x := Int.natCast_nonneg _
theorem n32_lt (x : UInt32) : n32 x < 4294967296 := by
  have := x.toNat_lt
  unfold n32
  omega
theorem n32_inj {x y : UInt32} : n32 x = n32 y ↔ x = y := by
  unfold n32
  rw [Int.ofNat_inj]
  exact UInt32.toNat_inj

def rotl (x : UInt32) (s : Nat) : UInt32 := ⟨x.toBitVec.rotateLeft s⟩

structure Quad where
  a : UInt32
  b : UInt32
  c : UInt32
  d : UInt32

def mix (a b c d x y : UInt32) : Quad :=
  let a1 := a + (b + x)
  let d1 := rotl (d ^^^ a1) 16
  let c1 := c + d1
  let b1 := rotl (b ^^^ c1) 20
  let a2 := a1 + (b1 + y)
  let d2 := rotl (d1 ^^^ a2) 24
  let c2 := c1 + d2
  let b2 := rotl (b1 ^^^ c2) 25
  ⟨a2, b2, c2, d2⟩

def iv : List UInt32 := [0x6a09e667, 0xbb67ae85, 0x3c6ef372, 0xa54ff53a, 0x510e527f, 0x9b05688c, 0x1f83d9ab, 0x5be0cd19]

def lanes : List (List Nat) := [[0, 4, 8, 12], [1, 5, 9, 13], [2, 6, 10, 14], [3, 7, 11, 15], [0, 5, 10, 15], [1, 6, 11, 12], [2, 7, 8, 13], [3, 4, 9, 14]]
def laneAt (i j : Nat) : Nat := (lanes.getD i []).getD j 0

def rounds10 : List (List Nat) := [
  [0, 1, 2, 3, 4, 5, 6, 7, 8, 9, 10, 11, 12, 13, 14, 15],
  [14, 10, 4, 8, 9, 15, 13, 6, 1, 12, 0, 2, 11, 7, 5, 3],
  [11, 8, 12, 0, 5, 2, 15, 13, 10, 14, 3, 6, 7, 1, 9, 4],
  [7, 9, 3, 1, 13, 12, 11, 14, 2, 6, 5, 10, 4, 0, 15, 8],
  [9, 0, 5, 7, 2, 4, 10, 15, 14, 1, 11, 12, 6, 8, 3, 13],
  [2, 12, 6, 10, 0, 11, 8, 3, 4, 13, 7, 5, 15, 14, 1, 9],
  [12, 5, 1, 15, 14, 13, 4, 10, 0, 7, 6, 3, 9, 2, 8, 11],
  [13, 11, 7, 14, 12, 1, 3, 9, 5, 0, 15, 4, 8, 6, 2, 10],
  [6, 15, 14, 9, 11, 3, 0, 8, 12, 2, 13, 7, 1, 4, 10, 5],
  [10, 2, 8, 4, 7, 6, 1, 5, 15, 11, 9, 14, 3, 12, 13, 0]]
def schedAt (r j : Nat) : Nat := (rounds10.getD r []).getD j 0

theorem laneAt_lt (i j : Nat) : laneAt i j < 16 := by
  have h : ∀ i, i < 8 → ∀ j, j < 4 → laneAt i j < 16 := by decide
  by_cases hi : i < 8
  · by_cases hj : j < 4
    · exact h i hi j hj
    · have : (lanes.getD i []).length ≤ 4 := by
        have hl : ∀ i, i < 8 → (lanes.getD i []).length ≤ 4 := by decide
        exact hl i hi
      unfold laneAt
      rw [List.getD_eq_getElem?_getD, List.getElem?_eq_none (by omega)]
      decide
  · unfold laneAt
    have : lanes.getD i [] = [] := by
      rw [List.getD_eq_getElem?_getD, List.getElem?_eq_none (show lanes.length ≤ i from Nat.le_of_not_lt hi)]
      rfl
    rw [this]
    simp

theorem schedAt_lt (r j : Nat) : schedAt r j < 16 := by
  have h : ∀ i, i < 10 → ∀ j, j < 16 → schedAt i j < 16 := by decide
  by_cases hi : r < 10
  · by_cases hj : j < 16
    · exact h r hi j hj
    · have : (rounds10.getD r []).length ≤ 16 := by
        have hl : ∀ i, i < 10 → (rounds10.getD i []).length ≤ 16 := by decide
        exact hl r hi
      unfold schedAt
      rw [List.getD_eq_getElem?_getD, List.getElem?_eq_none (by omega)]
      decide
  · unfold schedAt
    have : rounds10.getD r [] = [] := by
      rw [List.getD_eq_getElem?_getD, List.getElem?_eq_none (show rounds10.length ≤ r from Nat.le_of_not_lt hi)]
      rfl
    rw [this]
    simp

def set4 (v : List UInt32) (i : Nat) (q : Quad) : List UInt32 :=
  (((v.set (laneAt i 0) q.a).set (laneAt i 1) q.b).set (laneAt i 2) q.c).set (laneAt i 3) q.d
def mixAt (m v : List UInt32) (r i : Nat) : Quad :=
  mix (v.getD (laneAt i 0) 0) (v.getD (laneAt i 1) 0) (v.getD (laneAt i 2) 0) (v.getD (laneAt i 3) 0) (m.getD (schedAt r (2 * i)) 0) (m.getD (schedAt r (2 * i + 1)) 0)
def step1 (m v : List UInt32) (r i : Nat) : List UInt32 := set4 v i (mixAt m v r i)
/-- The first i mixings of round r. -/
def lap (m v : List UInt32) (r : Nat) : Nat → List UInt32
  | 0 => v
  | i + 1 => step1 m (lap m v r i) r i
/-- The first r rounds. -/
def laps (m v : List UInt32) : Nat → List UInt32
  | 0 => v
  | r + 1 => lap m (laps m v r) r 8

theorem length_step1 (m v : List UInt32) (r i : Nat) : (step1 m v r i).length = v.length := by simp [step1, set4]
theorem length_lap (m v : List UInt32) (r i : Nat) : (lap m v r i).length = v.length := by
  induction i with
  | zero => rfl
  | succ i ih => rw [lap, length_step1, ih]
theorem length_laps (m v : List UInt32) (r : Nat) : (laps m v r).length = v.length := by
  induction r with
  | zero => rfl
  | succ r ih => rw [laps, length_lap, ih]

def v0 (h : List UInt32) (t : Nat) (last : Bool) : List UInt32 :=
  h ++ [0x6a09e667, 0xbb67ae85, 0x3c6ef372, 0xa54ff53a, 0x510e527f ^^^ UInt32.ofNat t, 0x9b05688c ^^^ UInt32.ofNat (t / 4294967296),
    if last then ~~~ 0x1f83d9ab else 0x1f83d9ab, 0x5be0cd19]
def fin8 (h v : List UInt32) : List UInt32 :=
  (List.range 8).map fun i => h.getD i 0 ^^^ (v.getD i 0 ^^^ v.getD (i + 8) 0)
def compress (h m : List UInt32) (t : Nat) (last : Bool) : List UInt32 := fin8 h (laps m (v0 h t last) 10)

theorem length_compress (h m : List UInt32) (t : Nat) (last : Bool) : (compress h m t last).length = 8 := by simp [compress, fin8]

/-- Byte number k, shifted to its place in its word. -/
def lift8 (c : UInt8) (k : Nat) : UInt32 := UInt32.ofNat (c.toNat * 2 ^ (8 * (k % 4)))
/-- The words behind the first k bytes. -/
def wordsN (s : List UInt8) : Nat → List UInt32
  | 0 => List.replicate 16 0
  | k + 1 => (wordsN s k).modify (k / 4) (· ||| lift8 (s.getD k 0) k)
def wordsOf (s : List UInt8) : List UInt32 := wordsN s s.length
theorem length_wordsN (s : List UInt8) (k : Nat) : (wordsN s k).length = 16 := by
  induction k with
  | zero => rfl
  | succ k ih => rw [wordsN, List.length_modify, ih]
theorem length_wordsOf (s : List UInt8) : (wordsOf s).length = 16 := length_wordsN _ _

structure St where
  chain : List UInt32
  rest : List UInt8
  count : Nat

/-- Compresses all blocks but the last one. -/
def feed (c : List UInt32) (s : List UInt8) (n : Nat) : St :=
  if 64 < s.length then feed (compress c (wordsOf (s.take 64)) (n + 64) false) (s.drop 64) (n + 64) else ⟨c, s, n⟩
termination_by s.length
decreasing_by simp; omega

/-- The same, with fuel: for reckoning. -/
def feedN : Nat → List UInt32 → List UInt8 → Nat → St
  | 0, c, s, n => ⟨c, s, n⟩
  | k + 1, c, s, n => if 64 < s.length then feedN k (compress c (wordsOf (s.take 64)) (n + 64) false) (s.drop 64) (n + 64) else ⟨c, s, n⟩

theorem feed_eq_feedN (k : Nat) : ∀ (c : List UInt32) (s : List UInt8) (n : Nat), s.length ≤ 64 * k → feed c s n = feedN k c s n := by
  induction k with
  | zero =>
    intro c s n h
    rw [feed, if_neg (by omega)]
    rfl
  | succ k ih =>
    intro c s n h
    rw [feed, feedN]
    by_cases hs : 64 < s.length
    · rw [if_pos hs, if_pos hs, ih]
      simp; omega
    · rw [if_neg hs, if_neg hs]

def byteAt (x : UInt32) (j : Nat) : UInt8 := UInt8.ofNat (x.toNat / 2 ^ (8 * j))
def bytes4 (x : UInt32) : List UInt8 := [byteAt x 0, byteAt x 1, byteAt x 2, byteAt x 3]
def bytesOf (l : List UInt32) : List UInt8 := l.flatMap bytes4

def finish (st : St) : List UInt8 := bytesOf (compress st.chain (wordsOf st.rest) (st.count + st.rest.length) true)

def chain0 (k : Nat) : List UInt32 := [0x6a09e667 ^^^ (16842784 + 256 * UInt32.ofNat k), 0xbb67ae85, 0x3c6ef372, 0xa54ff53a, 0x510e527f, 0x9b05688c, 0x1f83d9ab, 0x5be0cd19]
def padKey (key : List UInt8) : List UInt8 := if key = [] then [] else key ++ List.replicate (64 - key.length) 0
def start0 (key : List UInt8) : St := ⟨chain0 key.length, padKey key, 0⟩
def take1 (st : St) (s : List UInt8) : St := feed st.chain (st.rest ++ s) st.count
def keyed (key s : List UInt8) : List UInt8 := finish (take1 (start0 key) s)
def dsum (s : List UInt8) : List UInt8 := keyed [] s

theorem dsum_reckon (k : Nat) (s : List UInt8) (h : s.length ≤ 64 * k) : dsum s = finish (feedN k (chain0 0) s 0) := by
  rw [← feed_eq_feedN k _ _ _ h]
  rfl

def hexDigit (n : Nat) : UInt8 := if n < 10 then UInt8.ofNat (48 + n) else UInt8.ofNat (87 + n)
def hexOf (s : List UInt8) : List UInt8 := s.flatMap fun c => [hexDigit (c.toNat / 16), hexDigit (c.toNat % 16)]

theorem dsum_empty : hexOf (dsum []) = "69217a3079908094e11121d042354a7c1f55b6482ca1a51e1b250dfd1ed0eef9".toUTF8.data.toList := by
  rw [dsum_reckon 0 _ (by decide)]
  decide +kernel
theorem dsum_abc : hexOf (dsum [97, 98, 99]) = "508c5e8c327c14e2e1a72ba34eeb452f37458b209ed63a294d999b4c86675982".toUTF8.data.toList := by
  rw [dsum_reckon 1 _ (by decide)]
  decide +kernel

end Go.Proofs.Ytkkoldfaplonaaa
