/- The contracts of strings.Builder's WriteByte and of image.number. -/
import Derived.Test.YtnfcohpljgmaiaaDb
import Derived.Test.YtnfcohpljgmaiaaShelf
import Derived.Lib.Builder
import Derived.Laws.Externs
import Derived.IntWalk
namespace Go.Proofs.Ytnfcohpljgmaiaa
open Go.RowKit

set_option maxHeartbeats 1000000 in
set_option maxRecDepth 100000 in
theorem check_used (b : Nat) (w : World) (h0 : w.cell? ⟨b, 0, none⟩ = some (.pointer (some ⟨b, 0, none⟩))) :
    Calls Try.prog 75 #[.pointer (some ⟨b, 0, none⟩)] w fun e w' => e = .returned (.tuple #[]) ∧ w' = w := by
  have i0 : (Try.prog.info? 85).map (·.size) = some 2 := by kernel_rfl
  obtain ⟨j, hj, _⟩ := Option.map_eq_some_iff.1 i0
  clear i0
  go_enter Try.func75, Try.ntmps75
  go_wp2
  rw [Lib.run_neq_ptr_same w _ Try.underlying83 hj]
  go_wp2
  go_end0
  exact ⟨rfl, rfl⟩

set_option maxHeartbeats 1000000 in
set_option maxRecDepth 100000 in
theorem check_fresh (b : Nat) (w : World) (h0 : w.cell? ⟨b, 0, none⟩ = some (.pointer none)) (hsh : w.shape? b = some (85, 2)) (hfz : w.frozen? ⟨b, 0, none⟩ = false) :
    Calls Try.prog 75 #[.pointer (some ⟨b, 0, none⟩)] w fun e w' => e = .returned (.tuple #[]) ∧ w' = w.setCell ⟨b, 0, none⟩ (.pointer (some ⟨b, 0, none⟩)) := by
  have i0 : (Try.prog.info? 85).map (·.size) = some 2 := by kernel_rfl
  obtain ⟨j, hj, hjs⟩ := Option.map_eq_some_iff.1 i0
  have hlies : liesAt Try.prog Try.prog.depth 85 (2 / Try.prog.cellsOf 85) 0 85 1 = true := by kernel_rfl
  have e1 := Lib.run_to_unsafe (P := Try.prog) w ⟨b, 0, none⟩ Try.underlying83 Try.underlying107 hj (by rw [hjs]; decide) hsh (Nat.zero_lt_succ 1)
  have e3 := Lib.run_from_unsafe (P := Try.prog) w ⟨b, 0, none⟩ Try.underlying107 Try.underlying83 hj hsh hlies
  have E1 := Lib.hid e1
  have E3 := Lib.hid e3
  clear i0 e1 e3 hlies hsh
  go_enter Try.func75, Try.ntmps75
  go_wp2
  rw [E1.out]
  simp only [Result.andThen]
  rw [Oper.upon_value]
  go_wp2
  rw [run_callFunc_extern Try.func80 (by kernel_rfl) (by kernel_rfl) (by kernel_rfl) (e := Extern.AbiNoEscape.same) (by kernel_rfl)]
  rw [Lib.run_noEscape]
  simp only [Result.andThen]
  rw [Oper.upon_value]
  go_wp2
  rw [E3.out]
  simp only [Result.andThen]
  rw [Oper.upon_value]
  go_wp2
  go_end0
  exact ⟨rfl, rfl⟩

theorem check_any (B b : Nat) (bs : List Value) (w : World) (h : Lib.IsBuilder 85 5 B b bs w) :
    Calls Try.prog 75 #[.pointer (some ⟨b, 0, none⟩)] w fun e w' => e = .returned (.tuple #[]) ∧ (Lib.BuilderAt 85 5 B b (.pointer (some ⟨b, 0, none⟩)) bs w' ∧ Below B w w') := by
  rcases h with h | h
  · refine (check_fresh b w h.cell0 h.shape h.frozen0).mono ?_
    rintro e w' ⟨rfl, rfl⟩
    exact ⟨rfl, h.used _, (Below.refl B w).setCell (p := ⟨b, 0, none⟩) h.1 _⟩
  · refine (check_used b w h.cell0).mono ?_
    rintro e w' ⟨rfl, rfl⟩
    exact ⟨rfl, h, Below.refl B _⟩

set_option maxHeartbeats 2000000 in
set_option maxRecDepth 100000 in
theorem write_byte (B b : Nat) (bs : List Value) (c : Int) (w : World) (h : Lib.IsBuilder 85 5 B b bs w) (hlen : bs.length + 1 ≤ 140737488355328) (hBw : B ≤ w.heap.size) :
    Calls Try.prog 64 #[.pointer (some ⟨b, 0, none⟩), .int .u8 c] w fun e w' => e = .returned .nilIface ∧ (Lib.BuilderAt 85 5 B b (.pointer (some ⟨b, 0, none⟩)) (bs ++ [.int .u8 c]) w' ∧ Below B w w') := by
  have ib : (Try.prog.info? 5).map (fun i => (i.zero, i.size, i.bytes)) = some (some (.int .u8 0), 1, 1) := by kernel_rfl
  obtain ⟨i0, hi, hz0, hz1, hz2⟩ := info_parts ib
  have H := Lib.hid h
  clear ib h
  go_enter Try.func64, Try.ntmps64
  go_wp2_with (go_at_call 75; refine (check_any B b bs _ H.out).mono ?_)
  rintro e w1 ⟨rfl, h1, hb1⟩
  obtain ⟨hB, v, hbk, hown, hne⟩ := h1
  have c0 : w1.cell? ⟨b, 0, none⟩ = some (.pointer (some ⟨b, 0, none⟩)) := by rw [Lib.cell_of_heap hbk]; rfl
  have c1 : w1.cell? ⟨b, 1, none⟩ = some v := by rw [Lib.cell_of_heap hbk]; rfl
  go_wp2_with (at_builtin; refine wpList_append_own _ rfl _ _ 44 rfl B 5 i0 (.int .u8 0) 1 1 Try.underlying44 hi hz0 hz1 hz2 rfl (by decide) _ _ _ rfl (hown.alloc _) ⟨w1.heap.size, 0, none⟩ 1 1 [.int .u8 c] rfl rfl ?c1 ?c2 ?c3 ?c4 ?c5 ?_)
  case c1 =>
    intro j u hj
    match j, hj with
    | 0, hj => simp at hj; subst hj; simp [Addr.add]
  case c2 => intro u hu; simp at hu; subst hu; rfl
  case c3 => unfold maxLen; omega
  case c4 => omega
  case c5 => have := hb1.size; simp; omega
  intro v' w2 hown' hgrow _
  have hlt : b < w1.heap.size := lt_of_block hbk
  have hb2 : w2.heap[b]? = some (.cells #[.pointer (some ⟨b, 0, none⟩), v] 85 (0, 0)) := by
    rw [hgrow.block b (by simp; omega) (fun e => hne e.symm)]
    exact heap_old hbk _
  have d0 : w2.cell? ⟨b, 0, none⟩ = some (.pointer (some ⟨b, 0, none⟩)) := by rw [Lib.cell_of_heap hb2]; rfl
  have d1 : w2.cell? ⟨b, 1, none⟩ = some v := by rw [Lib.cell_of_heap hb2]; rfl
  have f1 : w2.frozen? ⟨b, 1, none⟩ = false := Lib.frozen_of_heap hb2 1
  obtain ⟨g, cap, rfl⟩ : ∃ g cap, v' = .slice (some ⟨g, 0, none⟩) (bs.length + 1) cap := by
    rcases hown'.2 with ⟨_, h0⟩ | ⟨g, cap, cur, hv, _⟩
    · omega
    · exact ⟨g, cap, hv⟩
  go_wp2
  go_ret
  refine ⟨rfl, ?_, ?_⟩
  · exact Lib.BuilderAt.put (T := 85) (e := 5) hB hb2 (bs' := bs ++ [.int .u8 c]) (by simpa using hown') (by decide)
  · exact ((hb1.alloc (by have := hb1.size; omega) _).grown hgrow (by have := hb1.size; simp; omega) (fun k hk => (hown.lt k hk).1)).setCell (p := ⟨b, 1, none⟩) hB _

/-- Byte number k of a number. -/
def byteOf (x : Int) (k : Nat) : UInt8 := UInt8.ofNat (x / 2 ^ (8 * k) % 256).toNat
/-- The n low bytes of a number, the high one first. -/
def be (x : Int) : Nat → List UInt8
  | 0 => []
  | n + 1 => byteOf x n :: be x n
/-- The bytes of the first j pairs. -/
def numN (l : List Int) : Nat → List UInt8
  | 0 => []
  | j + 1 => numN l j ++ be (l.getD (2 * j + 1) 0) (l.getD (2 * j) 0).toNat
def numBytes (l : List Int) : List UInt8 := numN l (l.length / 2)
theorem length_be (x : Int) (n : Nat) : (be x n).length = n := by
  induction n with
  | zero => rfl
  | succ n ih => rw [be, List.length_cons, ih]

theorem byteCells_append (a b : List UInt8) : Lib.byteCells (a ++ b) = Lib.byteCells a ++ Lib.byteCells b := by simp [Lib.byteCells]
theorem byteCells_length (a : List UInt8) : (Lib.byteCells a).length = a.length := by simp [Lib.byteCells]
theorem byte_cell (x : Int) (k : Nat) : [Value.int .u8 (x / 2 ^ (8 * k) % 256)] = Lib.byteCells [byteOf x k] := by
  unfold Lib.byteCells byteOf
  simp only [List.map_cons, List.map_nil]
  rw [UInt8.toNat_ofNat']
  congr 2
  omega
theorem numN_length (l : List Int) (h : ∀ x ∈ l, x ≤ 8 → True) : ∀ j, (∀ i, i < j → (l.getD (2 * i) 0) ≤ 8) → (numN l j).length ≤ 8 * j
  | 0, _ => Nat.le_refl _
  | j + 1, hj => by
    have h1 := numN_length l h j (fun i hi => hj i (by omega))
    have h2 := hj j (by omega)
    rw [numN, List.length_append, length_be]
    omega

theorem plain_addr {w : World} {ad : Addr} {v : Value} (h : w.cell? (ad.add 0) = some v) : ∃ g off, ad = ⟨g, off, none⟩ := by
  obtain ⟨g, off, sp⟩ := ad
  cases sp with
  | none => exact ⟨g, off, rfl⟩
  | some s =>
    exfalso
    unfold Addr.add World.cell? at h
    rw [if_pos rfl] at h
    split at h <;> simp at h
/-- The pairs' sizes are small. -/
def Small (l : List Int) : Prop := l.length ≤ 16 ∧ ∀ i, i < l.length / 2 → 0 ≤ l.getD (2 * i) 0 ∧ l.getD (2 * i) 0 ≤ 8

set_option maxHeartbeats 4000000 in
set_option maxRecDepth 100000 in
theorem number_any (a : Option Addr) (c : Nat) (l : List Int) (w : World) (hl : Small l) (hwf : ∀ x ∈ l, (Lit.int .i64 x).wf = true) (hc : ∀ j, j < l.length → ∃ ad, a = some ad ∧ w.cell? (ad.add j) = some (.int .i64 (l.getD j 0))) :
    Calls Try.prog 56 #[.slice a l.length c] w (Ret (.string ⟨(numBytes l).toArray⟩) w) := by
  have HC := Lib.hid hc
  have HL := Lib.hid hl
  have HF := Lib.hid hwf
  have hl16 := hl.1
  clear hc hl hwf
  go_enter Try.func56, Try.ntmps56
  go_wp2
  have hb0 : Lib.IsBuilder 85 5 w.heap.size w.heap.size (Lib.byteCells []) (w.alloc (.cells #[.pointer none, .slice none 0 0] 85)) := .inl ⟨Nat.le_refl _, .slice none 0 0, heap_new w _, World.ownsRow_nil _ _ _ _, by simp [Value.ownBlock]⟩
  have hbl0 : Below w.heap.size w (w.alloc (.cells #[.pointer none, .slice none 0 0] 85)) := (Below.refl _ _).alloc (Nat.le_refl _) _
  go_loopw [4] (fun i wr => ∃ j : Nat, 2 * j ≤ l.length ∧ i = .int .i64 (2 * (j : Int)) ∧ Lib.IsBuilder 85 5 w.heap.size w.heap.size (Lib.byteCells (numN l j)) wr ∧ Below w.heap.size w wr) (fun i _ => l.length - (intOf i).toNat)
  case atStart => exact ⟨0, Nat.zero_le _, rfl, hb0, hbl0⟩
  case round =>
    obtain ⟨j, hj, rfl, hb, hbl⟩ := hrel
    have HB := Lib.hid hb
    have HBL := Lib.hid hbl
    clear hb hbl hb0 hbl0
    by_cases hlt : 2 * j + 1 < l.length
    · have hltI : 2 * (j : Int) + 1 < (l.length : Int) := by omega
      obtain ⟨ad, rfl, hcz⟩ := HC.out 0 (by omega)
      obtain ⟨g, off, rfl⟩ := plain_addr hcz
      obtain ⟨ad', had', hc0⟩ := HC.out (2 * j) (by omega)
      injection had' with had'
      subst had'
      obtain ⟨ad', had, hc1⟩ := HC.out (2 * j + 1) hlt
      injection had with had
      subst had
      rw [addr_add] at hc0 hc1
      clear hcz
      have hlt0 := World.block_lt_of_cell? w _ hc0
      have hlt1 := World.block_lt_of_cell? w _ hc1
      obtain ⟨n0, hn0⟩ : ∃ n0 : Nat, l.getD (2 * j) 0 = (n0 : Int) := ⟨(l.getD (2 * j) 0).toNat, by have := HL.out.2 j (by omega); omega⟩
      obtain ⟨x, hx⟩ : ∃ x, x = l.getD (2 * j + 1) 0 := ⟨_, rfl⟩
      have hn8 : n0 ≤ 8 := by have := (HL.out.2 j (by omega)).2; omega
      have hc2 := (HBL.out.cell hlt0).trans hc0
      rw [hn0] at hc2
      rw [← hx] at hc1
      have hnx : numN l (j + 1) = numN l j ++ be x n0 := by
        rw [numN, ← hx, hn0]
        rfl
      have hxw : -9223372036854775808 ≤ x ∧ x ≤ 9223372036854775807 := by
        have h1 : x ∈ l := by
          rw [hx, List.getD_eq_getElem?_getD, List.getElem?_eq_getElem hlt]
          exact List.getElem_mem _
        have h2 := HF.out x h1
        simp [Lit.wf, IntKind.min, IntKind.max, IntKind.signed, IntKind.bits] at h2
        omega
      have hnl := numN_length l (fun _ _ _ => trivial) j (fun i hi => (HL.out.2 i (by omega)).2)
      have hadI : (2 * (j : Int)).toNat = 2 * j := by omega
      have hadI1 : (2 * (j : Int) + 1).toNat = 2 * j + 1 := by omega
      have HC1 := Lib.hid hc1
      have HNX := Lib.hid hnx
      have HLT1 := Lib.hid hlt1
      clear hc0 hc1 hn0 hx hnx hlt0 hlt1
      go_wp2
      obtain ⟨wo, hwo⟩ : ∃ wo : World, wo = wr := ⟨_, rfl⟩
      rw [← hwo] at hc2 HB HBL ⊢
      clear hwo
      go_loopw [5] (fun k wr => ∃ (m : Nat) (pre : List UInt8), m ≤ n0 ∧ k = .int .i64 ((m : Int) - 1) ∧ pre ++ be x m = numN l (j + 1) ∧ Lib.IsBuilder 85 5 w.heap.size w.heap.size (Lib.byteCells pre) wr ∧ Below w.heap.size w wr) (fun k _ => (intOf k + 1).toNat)
      case atStart => exact ⟨n0, numN l j, Nat.le_refl _, rfl, HNX.out.symm, HB.out, HBL.out⟩
      case round =>
        obtain ⟨m, pre, hm, rfl, hpre, hb, hbl⟩ := hrel
        have HB2 := Lib.hid hb
        have HBL2 := Lib.hid hbl
        clear hb hbl
        cases m with
        | zero =>
          have hz : ((0 : Nat) : Int) - 1 = -1 := by omega
          rw [hz]
          simp only [be, List.append_nil] at hpre
          subst hpre
          have hj2 : 2 * (j : Int) + 2 = 2 * ((j + 1 : Nat) : Int) := by omega
          clear hz hc2
          go_wp2
          refine ⟨⟨j + 1, by omega, by rw [← hj2]; rfl, HB2.out, HBL2.out⟩, ?_⟩
          simp [intOf]
          omega
        | succ m =>
          have hz : ((m + 1 : Nat) : Int) - 1 = (m : Int) := by omega
          rw [hz]
          clear hz
          have hc4 : wr.cell? ⟨g, off + (2 * j + 1), none⟩ = some (.int .i64 x) := (HBL2.out.cell HLT1.out).trans HC1.out
          have hpl : pre.length ≤ 1000 := by
            have h1 := congrArg List.length hpre
            rw [List.length_append, length_be, HNX.out, List.length_append, length_be] at h1
            omega
          have hbe : be x (m + 1) = byteOf x m :: be x m := rfl
          rw [hbe] at hpre
          have HP := Lib.hid hpre
          clear hpre hbe hc2
          go_wp2_with (go_at_call 64; refine (write_byte w.heap.size w.heap.size (Lib.byteCells pre) _ wr HB2.out (by rw [byteCells_length]; omega) HBL2.out.size).mono ?_; rintro e w4 ⟨rfl, hb4, hbl4⟩; have HB4 := Lib.hid hb4; have HBL4 := Lib.hid hbl4; clear hb4 hbl4)
          refine ⟨⟨m, pre ++ [byteOf x m], by omega, rfl, by rw [List.append_assoc]; exact HP.out, ?_, HBL2.out.trans HBL4.out⟩, by simp [intOf]⟩
          rw [byteCells_append, ← byte_cell]
          exact .inr HB4.out
    · have hltI : ¬ 2 * (j : Int) + 1 < (l.length : Int) := by omega
      have hjl : j = l.length / 2 := by omega
      have hS := Try.Builder_String_any w.heap.size w.heap.size (numN l j) wr HB.out HBL.out.size
      have HS := Lib.hid hS
      have HJ := Lib.hid hjl
      clear hS hjl
      go_wp2_with (go_at_call 65; refine HS.out.mono ?_; rintro e w4 ⟨rfl, hbl4⟩; have HBL4 := Lib.hid hbl4; clear hbl4)
      go_ret
      refine ⟨?_, HBL.out.trans HBL4.out⟩
      rw [numBytes, ← HJ.out]
      rfl

end Go.Proofs.Ytnfcohpljgmaiaa
