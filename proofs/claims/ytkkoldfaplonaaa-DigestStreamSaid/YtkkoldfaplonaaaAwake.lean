/- The contract of the laws' own example, awake. -/
import Derived.Test.YtkkoldfaplonaaaClone
import Derived.Test.YtkkoldfaplonaaaParse
namespace Go.Proofs.Ytkkoldfaplonaaa
open Go.RowKit

theorem nib_hexOf (l : List UInt8) : nib (hexOf l) = l := by
  induction l with
  | nil => rfl
  | cons c l ih =>
    show nib (hexDigit (c.toNat / 16) :: hexDigit (c.toNat % 16) :: hexOf l) = _
    have h : ∀ k : Fin 256, UInt8.ofNat (hexVal (hexDigit (k.val / 16)) * 16 + hexVal (hexDigit (k.val % 16))) = UInt8.ofNat k.val := by decide +kernel
    have h1 := h ⟨c.toNat, c.toNat_lt⟩
    rw [nib, ih, h1]
    congr 1
    exact UInt8.ofNat_toNat
theorem isHex_hexOf (l : List UInt8) : (hexOf l).all isHex = true := by
  induction l with
  | nil => rfl
  | cons c l ih =>
    show (hexDigit (c.toNat / 16) :: hexDigit (c.toNat % 16) :: hexOf l).all isHex = true
    have h : ∀ k : Fin 16, isHex (hexDigit k.val) = true := by decide +kernel
    have h1 := h ⟨c.toNat / 16, by have := c.toNat_lt; omega⟩
    have h2 := h ⟨c.toNat % 16, by omega⟩
    simp only [List.all_cons, h1, h2, ih, Bool.and_self]
theorem parsed_hexOf (l : List UInt8) (h : l.length = 32) : parsed (hexOf l) = (l, 0) := by
  rw [parsed, if_pos ⟨by rw [length_hexOf, h], isHex_hexOf l⟩, nib_hexOf]

theorem length_finish (st : St) : (finish st).length = 32 := by
  unfold finish
  rw [length_bytesOf, length_compress]
theorem length_keyed (k s : List UInt8) : (keyed k s).length = 32 := length_finish _
theorem length_dsum (s : List UInt8) : (dsum s).length = 32 := length_finish _
theorem S8_size (l : List UInt8) : (S8 l).size = l.length := by
  show l.toArray.size = _
  simp
theorem S8_toList (l : List UInt8) : (S8 l).data.toList = l := rfl
theorem S8_inj {a b : List UInt8} : S8 a = S8 b ↔ a = b := ⟨fun h => (S8_toList a).symm.trans ((congrArg (fun x : ByteArray => x.data.toList) h).trans (S8_toList b)), fun h => by rw [h]⟩
theorem S8_of (s : ByteArray) : S8 s.data.toList = s := rfl

/-- The strings of the example. -/
def hex0 : ByteArray := ⟨#[54, 57, 50, 49, 55, 97, 51, 48, 55, 57, 57, 48, 56, 48, 57, 52, 101, 49, 49, 49, 50, 49, 100, 48, 52, 50, 51, 53, 52, 97, 55, 99, 49, 102, 53, 53, 98, 54, 52, 56, 50, 99, 97, 49, 97, 53, 49, 101, 49, 98, 50, 53, 48, 100, 102, 100, 49, 101, 100, 48, 101, 101, 102, 57]⟩
def hex3 : ByteArray := ⟨#[53, 48, 56, 99, 53, 101, 56, 99, 51, 50, 55, 99, 49, 52, 101, 50, 101, 49, 97, 55, 50, 98, 97, 51, 52, 101, 101, 98, 52, 53, 50, 102, 51, 55, 52, 53, 56, 98, 50, 48, 57, 101, 100, 54, 51, 97, 50, 57, 52, 100, 57, 57, 57, 98, 52, 99, 56, 54, 54, 55, 53, 57, 56, 50]⟩
theorem hex0_eq : S8 (hexOf (dsum [])) = hex0 := by
  rw [dsum_empty]
  decide +kernel
theorem hex3_eq : S8 (hexOf (dsum [97, 98, 99])) = hex3 := by
  rw [dsum_abc]
  decide +kernel

theorem feed_append (k : Nat) : ∀ (c : List UInt32) (s : List UInt8) (n : Nat) (t : List UInt8), s.length ≤ k → feed (feed c s n).chain ((feed c s n).rest ++ t) (feed c s n).count = feed c (s ++ t) n := by
  induction k with
  | zero =>
    intro c s n t h
    have e : feed c s n = ⟨c, s, n⟩ := by rw [feed, if_neg (by omega)]
    rw [e]
  | succ k ih =>
    intro c s n t h
    by_cases hs : 64 < s.length
    · have e : feed c s n = feed (compress c (wordsOf (s.take 64)) (n + 64) false) (s.drop 64) (n + 64) := by rw [feed, if_pos hs]
      have e2 : feed c (s ++ t) n = feed (compress c (wordsOf (s.take 64)) (n + 64) false) (s.drop 64 ++ t) (n + 64) := by
        rw [feed, if_pos (by rw [List.length_append]; omega), List.take_append_of_le_length (by omega), List.drop_append_of_le_length (by omega)]
      rw [e, e2]
      exact ih _ _ _ _ (by rw [List.length_drop]; omega)
    · have e : feed c s n = ⟨c, s, n⟩ := by rw [feed, if_neg hs]
      rw [e]
theorem take1_take1 (st : St) (a b : List UInt8) : take1 (take1 st a) b = take1 st (a ++ b) := by
  unfold take1
  rw [feed_append _ _ _ _ _ (Nat.le_refl _), List.append_assoc]
def flat (l : List ByteArray) : List UInt8 := l.flatMap fun s => s.data.toList
theorem takes_flat (l : List ByteArray) : ∀ (st : St) (a : List UInt8), takes (take1 st a) l = take1 st (a ++ flat l) := by
  induction l with
  | nil =>
    intro st a
    show take1 st a = take1 st (a ++ [])
    rw [List.append_nil]
  | cons s l ih =>
    intro st a
    show takes (take1 (take1 st a) s.data.toList) l = _
    rw [take1_take1, ih, List.append_assoc]
    rfl
theorem start_take : start0 [] = take1 (start0 []) [] := by
  unfold take1
  rw [feed, if_neg (by decide)]
  rfl
theorem finish_takes (l : List ByteArray) : finish (takes (start0 []) l) = dsum (flat l) := by
  rw [start_take, takes_flat]
  rfl

theorem take1_facts (s : List UInt8) (hs : s.length ≤ 64) : take1 (start0 []) s = ⟨chain0 0, s, 0⟩ := by
  unfold take1
  show feed (chain0 0) s 0 = _
  rw [feed, if_neg (by omega)]
/-- What the example's Write leaves. -/
def AwakeWrite (W : World) (base b : Nat) (T : TypeId) (v : Value) (w' : World) : Prop :=
  ∃ st v', StAt w' base b T [.int .i64 3] st v' ∧ finish st = dsum [97, 98, 99] ∧ st.rest.length ≤ 64 ∧ st.count + st.rest.length ≤ 140737488355328 ∧ Keeps (fun k => k = b ∨ some k = v.ownBlock) W w'
theorem awake_write (base b : Nat) (T : TypeId) (v : Value) (W : World) (h : StAt W base b T [.int .i64 0] (start0 []) v) (hb : base ≤ W.heap.size) :
    Calls Try.prog 21 #[.pointer (some ⟨b, 0, none⟩), .slice (some ⟨W.heap.size, 0, none⟩) 3 3] (W.alloc (.cells #[.string ⟨#[97]⟩, .string ⟨#[]⟩, .string ⟨#[98, 99]⟩] 9)) (fun e w' => e = .returned (.int .i64 3) ∧ AwakeWrite W base b T v w') := by
  have hn : Below W.heap.size W (W.alloc (.cells #[.string ⟨#[97]⟩, .string ⟨#[]⟩, .string ⟨#[98, 99]⟩] 9)) := (Below.refl _ _).alloc (Nat.le_refl _) _
  have h2 : StAt (W.alloc (.cells #[.string ⟨#[97]⟩, .string ⟨#[]⟩, .string ⟨#[98, 99]⟩] 9)) base b T [.int .i64 ((0 : Nat) : Int)] (start0 []) v := ⟨heap_old h.blk _, h.seg.below hn, h.apart, h.len⟩
  refine (write_any base b T (start0 []) v 0 [⟨#[97]⟩, ⟨#[]⟩, ⟨#[98, 99]⟩] (some ⟨W.heap.size, 0, none⟩) 3 _ h2 (Nat.le_trans hb (by simp)) (by decide) (by decide) (by decide) ?_ ?_).mono ?_
  · intro j hj
    refine ⟨⟨W.heap.size, 0, none⟩, rfl, ?_⟩
    rw [addr_add, cell_of (heap_new W _)]
    have hj' : j = 0 ∨ j = 1 ∨ j = 2 := by
      simp only [List.length_cons, List.length_nil] at hj
      omega
    rcases hj' with rfl | rfl | rfl <;> rfl
  · intro _ ad he
    injection he with he
    subst he
    refine ⟨fun e => ?_, fun e => ?_⟩
    · have h1 := lt_of_block h.blk
      have e1 : W.heap.size = b := e
      omega
    · have h1 : W.heap.size < W.heap.size := (h.seg.lt _ e.symm).2
      omega
  · rintro e w' ⟨rfl, v', hst, hk, -⟩
    have e3 : takes (start0 []) [⟨#[97]⟩, ⟨#[]⟩, ⟨#[98, 99]⟩] = ⟨chain0 0, [97, 98, 99], 0⟩ := by
      rw [start_take, takes_flat]
      exact take1_facts [97, 98, 99] (by decide)
    refine ⟨rfl, takes (start0 []) [⟨#[97]⟩, ⟨#[]⟩, ⟨#[98, 99]⟩], v', hst, finish_takes _, ?_, ?_, (Keeps.of_below (S := fun k => k = b ∨ some k = v.ownBlock) hn).trans hk⟩
    · rw [e3]
      decide
    · rw [e3]
      decide

theorem ret_below {v : Value} {w w' : World} {e : Ending} (h : Ret v w e w') : e = .returned v ∧ Below w.heap.size w w' := h

set_option maxRecDepth 100000 in
set_option maxHeartbeats 4000000 in
theorem awake_any (w : World) : Calls Try.prog 11 #[] w (Ret (.bool true) w) := by
  have hS0 : ∀ w, Calls Try.prog 12 #[.string ⟨#[]⟩] w (Ret (.string (S8 (dsum []))) w) := fun w => dsum_any ⟨#[]⟩ w (by decide)
  have hS3 : ∀ w, Calls Try.prog 12 #[.string ⟨#[97, 98, 99]⟩] w (Ret (.string (S8 (dsum [97, 98, 99]))) w) := fun w => dsum_any ⟨#[97, 98, 99]⟩ w (by decide)
  have hX0 : ∀ w, Calls Try.prog 23 #[.string (S8 (dsum []))] w (Ret (.tuple #[.string hex0, .int .i64 0]) w) := fun w => by
    rw [← hex0_eq]
    exact hex_any _ w (by rw [S8_size, length_dsum])
  have hX3 : ∀ w, Calls Try.prog 23 #[.string (S8 (dsum [97, 98, 99]))] w (Ret (.tuple #[.string hex3, .int .i64 0]) w) := fun w => by
    rw [← hex3_eq]
    exact hex_any _ w (by rw [S8_size, length_dsum])
  have hP : ∀ w, Calls Try.prog 24 #[.string hex3] w (Ret (.tuple #[.string (S8 (dsum [97, 98, 99])), .int .i64 0]) w) := fun w => by
    have h1 := parse_any hex3 w
    rw [← hex3_eq, S8_toList, parsed_hexOf _ (length_dsum _), hex3_eq] at h1
    exact h1
  have hK : ∀ w, Calls Try.prog 14 #[.string ⟨#[]⟩, .string ⟨#[97, 98, 99]⟩] w (Ret (.tuple #[.string (S8 (dsum [97, 98, 99])), .int .i64 0]) w) := fun w => keyed_any ⟨#[]⟩ ⟨#[97, 98, 99]⟩ w (by decide) (by decide)
  have hM : ∀ w, Calls Try.prog 16 #[.agg #[.int .u32 1, .int .u32 0, .int .u32 0, .int .u32 0], .int .u32 0, .int .u32 0] w (Ret (.agg #[.int .u32 17, .int .u32 539099650, .int .u32 285278464, .int .u32 285212928]) w) := fun w => by
    have h1 := mix_any 1 0 0 0 0 0 w
    have e0 : n32 (mix 1 0 0 0 0 0).a = 17 := by decide +kernel
    have e1 : n32 (mix 1 0 0 0 0 0).b = 539099650 := by decide +kernel
    have e2 : n32 (mix 1 0 0 0 0 0).c = 285278464 := by decide +kernel
    have e3 : n32 (mix 1 0 0 0 0 0).d = 285212928 := by decide +kernel
    unfold mixVal at h1
    rw [e0, e1, e2, e3] at h1
    exact h1
  generalize S8 (dsum []) = s0 at hS0 hX0
  generalize hs3 : S8 (dsum [97, 98, 99]) = s3 at hS3 hX3 hP hK
  have HS0 := Lib.hid hS0
  have HS3 := Lib.hid hS3
  have HX0 := Lib.hid hX0
  have HX3 := Lib.hid hX3
  have HP := Lib.hid hP
  have HK := Lib.hid hK
  have HM := Lib.hid hM
  have Hs3 := Lib.hid hs3
  clear hS0 hS3 hX0 hX3 hP hK hM hs3
  have hx0 : (hex0.toList == ([54, 57, 50, 49, 55, 97, 51, 48, 55, 57, 57, 48, 56, 48, 57, 52, 101, 49, 49, 49, 50, 49, 100, 48, 52, 50, 51, 53, 52, 97, 55, 99, 49, 102, 53, 53, 98, 54, 52, 56, 50, 99, 97, 49, 97, 53, 49, 101, 49, 98, 50, 53, 48, 100, 102, 100, 49, 101, 100, 48, 101, 101, 102, 57] : List UInt8)) = true := by decide +kernel
  have hx3 : (hex3.toList == ([53, 48, 56, 99, 53, 101, 56, 99, 51, 50, 55, 99, 49, 52, 101, 50, 101, 49, 97, 55, 50, 98, 97, 51, 52, 101, 101, 98, 52, 53, 50, 102, 51, 55, 52, 53, 56, 98, 50, 48, 57, 101, 100, 54, 51, 97, 50, 57, 52, 100, 57, 57, 57, 98, 52, 99, 56, 54, 54, 55, 53, 57, 56, 50] : List UInt8)) = true := by decide +kernel
  have hd0 : decide (hex0.toList = ([54, 57, 50, 49, 55, 97, 51, 48, 55, 57, 57, 48, 56, 48, 57, 52, 101, 49, 49, 49, 50, 49, 100, 48, 52, 50, 51, 53, 52, 97, 55, 99, 49, 102, 53, 53, 98, 54, 52, 56, 50, 99, 97, 49, 97, 53, 49, 101, 49, 98, 50, 53, 48, 100, 102, 100, 49, 101, 100, 48, 101, 101, 102, 57] : List UInt8)) = true := by decide +kernel
  have hd3 : decide (hex3.toList = ([53, 48, 56, 99, 53, 101, 56, 99, 51, 50, 55, 99, 49, 52, 101, 50, 101, 49, 97, 55, 50, 98, 97, 51, 52, 101, 101, 98, 52, 53, 50, 102, 51, 55, 52, 53, 56, 98, 50, 48, 57, 101, 100, 54, 51, 97, 50, 57, 52, 100, 57, 57, 57, 98, 52, 99, 56, 54, 54, 55, 53, 57, 56, 50] : List UInt8)) = true := by decide +kernel
  have heq : ∀ w, (Op.equalIn 10000 30 (.agg #[.int .u32 17, .int .u32 539099650, .int .u32 285278464, .int .u32 285212928]) (.agg #[.int .u32 17, .int .u32 539099650, .int .u32 285278464, .int .u32 285212928])).run Try.prog w = .ok true w := fun _ => by kernel_rfl
  generalize hex0 = x0 at HX0 hx0 hd0
  generalize hex3 = x3 at HX3 HP hx3 hd3
  have HB := Lib.hid (Below.refl w.heap.size w)
  go_enter Try.func11, Try.ntmps11
  go_upto_region 5 with (first
    | (go_at_call 12; first | (with_reducible refine (HS0.out _).mono ?_) | (with_reducible refine (HS3.out _).mono ?_)); rintro e w1 ⟨rfl, hb⟩; replace HB := Lib.hid (below_then HB.out HB.out.size hb); clear hb
    | (go_at_call 23; first | (with_reducible refine (HX0.out _).mono ?_) | (with_reducible refine (HX3.out _).mono ?_)); rintro e w1 ⟨rfl, hb⟩; replace HB := Lib.hid (below_then HB.out HB.out.size hb); clear hb
    | (go_at_call 24; (with_reducible refine (HP.out _).mono ?_); rintro e w1 ⟨rfl, hb⟩; replace HB := Lib.hid (below_then HB.out HB.out.size hb); clear hb)
    | (go_at_call 14; (with_reducible refine (HK.out _).mono ?_); rintro e w1 ⟨rfl, hb⟩; replace HB := Lib.hid (below_then HB.out HB.out.size hb); clear hb))
  go_upto_region 8 with (go_at_call 20; (with_reducible refine (new_any _).mono ?_); rintro e w2 ⟨b, v, rfl, hbb, hst, hb⟩; have Hst := Lib.hid hst; have Hbb := Lib.hid hbb; have HN := Lib.hid hb; have HW1 := HB; replace HB := Lib.hid (below_then HB.out HB.out.size hb); clear hst hbb hb)
  go_upto_region 9 with (go_at_call 21; (with_reducible refine (awake_write _ b _ v w2 Hst.out HN.out.size).mono ?_); rintro e w3 ⟨rfl, st, v3, hst3, hfin, hr3, hn3, hk3⟩; have Hst3 := Lib.hid hst3; have Hfin := Lib.hid hfin; have Hr3 := Lib.hid hr3; have Hn3 := Lib.hid hn3; have Hk3 := Lib.hid hk3; clear hst3 hfin hr3 hn3 hk3)
  go_wp2_with (first
    | (go_at_call 22; (with_reducible refine (hsum_any _ b _ _ st v3 _ Hst3.out Hr3.out Hn3.out).mono ?_); rintro e w4 ⟨rfl, hb4⟩; have Hb4 := Lib.hid hb4; clear hb4; rw [Hfin.out, Hs3.out])
    | (go_at_call 16; (with_reducible refine (HM.out _).mono ?_); rintro e w5 ⟨rfl, hb5⟩; have Hb5 := Lib.hid hb5; clear hb5))
  go_ret
  have hk3 : Below w.heap.size w2 w3 := Hk3.out.below HB.out.size (fun k hk => by
    have h1 := HN.out.size
    rcases hk with rfl | hk
    · have := Hbb.out
      have := HW1.out.size
      omega
    · have := (Hst.out.seg.lt k hk.symm).1
      have := HW1.out.size
      omega)
  exact ⟨rfl, below_then (below_then (HB.out.trans hk3) (HB.out.trans hk3).size Hb4.out) (below_then (HB.out.trans hk3) (HB.out.trans hk3).size Hb4.out).size Hb5.out⟩

end Go.Proofs.Ytkkoldfaplonaaa
