/- The contracts of digest.Hex and digest.Parse. -/
import Derived.Test.YtkkoldfaplonaaaSumsR
import Derived.Deep.RegionLaw
namespace Go.Proofs.Ytkkoldfaplonaaa
open Go.RowKit

theorem hex_bad (d : ByteArray) (w : World) (h : d.size ≠ 32) :
    Calls Try.prog 23 #[.string d] w (Ret (.tuple #[.string ⟨#[]⟩, .int .i64 1]) w) := by
  have h1 : ¬ ((d.size : Int) = 32) := by omega
  go_enter Try.func23, Try.ntmps23
  go_wp2
  go_ret2
  exact ⟨rfl, Below.refl _ _⟩
theorem parse_bad (d : ByteArray) (w : World) (h : d.size ≠ 64) :
    Calls Try.prog 24 #[.string d] w (Ret (.tuple #[.string ⟨#[]⟩, .int .i64 3]) w) := by
  have h1 : ¬ ((d.size : Int) = 64) := by omega
  go_enter Try.func24, Try.ntmps24
  go_wp2
  go_ret2
  exact ⟨rfl, Below.refl _ _⟩

theorem step_append_run {P : Program} {ops : Array Oper} {o : Oper} {a : Act} {w : World} {K : Act → World → Prop} {Q : Exit → Act → World → Prop} {E : Prop} (hgd : o.guard = none) (s x : Operand) (t tn : TypeId)
    (ho : o.op = .call { callee := .builtin .append, args := #[s, x], argTypes := #[t, tn] }) (vs vx : Value) (hs : a.eval s = vs) (hx : a.eval x = vx)
    (v' : Value) (w' : World) (hr : (Builtin.append_ #[t, tn] o.type #[vs, vx]).run P w = .ok v' w') (h : K (a.put o.dst v') w') :
    if Region.wanted o (yielded ops a.tmps) = true then Oper.wp P o a w K Q else E := by
  rw [if_pos (by simp [Region.wanted, hgd])]
  exact Lib.wp_append_run w s x t tn ho vs vx hs hx v' w' hr h

theorem digit_at_hex (j : Nat) (hj : j < 16) : ∃ h : j < (⟨#[48, 49, 50, 51, 52, 53, 54, 55, 56, 57, 97, 98, 99, 100, 101, 102]⟩ : ByteArray).size, ((((⟨#[48, 49, 50, 51, 52, 53, 54, 55, 56, 57, 97, 98, 99, 100, 101, 102]⟩ : ByteArray)[j]'h).toNat : Int)) = n8 (hexDigit j) := by
  have h : ∀ j, j < 16 → ∃ h : j < (⟨#[48, 49, 50, 51, 52, 53, 54, 55, 56, 57, 97, 98, 99, 100, 101, 102]⟩ : ByteArray).size, ((((⟨#[48, 49, 50, 51, 52, 53, 54, 55, 56, 57, 97, 98, 99, 100, 101, 102]⟩ : ByteArray)[j]'h).toNat : Int)) = n8 (hexDigit j) := by decide +kernel
  exact h j hj
theorem and15 (x : UInt8) : bits .and .u8 (n8 x) 15 = ((x.toNat % 16 : Nat) : Int) := by
  have h : ∀ k : Fin 256, bits .and .u8 ((k.val : Nat) : Int) 15 = ((k.val % 16 : Nat) : Int) := by decide +kernel
  exact h ⟨x.toNat, x.toNat_lt⟩

theorem hexOf_step (l : List UInt8) (i : Nat) (hi : i < l.length) : hexOf (l.take (i + 1)) = hexOf (l.take i) ++ [hexDigit ((at8 l i).toNat / 16), hexDigit ((at8 l i).toNat % 16)] := by
  unfold hexOf at8
  rw [List.take_add_one, List.flatMap_append, List.getD_eq_getElem?_getD, List.getElem?_eq_getElem hi]
  simp
theorem length_hexOf (l : List UInt8) : (hexOf l).length = 2 * l.length := by
  unfold hexOf
  induction l with
  | nil => rfl
  | cons a l ih => rw [List.flatMap_cons, List.length_append, ih, List.length_cons]; simp; omega

set_option maxRecDepth 100000 in
set_option maxHeartbeats 2000000 in
theorem hex_any (d : ByteArray) (w : World) (h : d.size = 32) :
    Calls Try.prog 23 #[.string d] w (Ret (.tuple #[.string (S8 (hexOf d.data.toList)), .int .i64 0]) w) := by
  have hI : (d.size : Int) = 32 := by omega
  have i0 : (Try.prog.info? 5).map (fun i => (i.zero, i.size, i.bytes)) = some (some (.int .u8 0), 1, 1) := by kernel_rfl
  obtain ⟨i5, hi5, hz5, hs5, hb5⟩ := info_parts i0
  have hmk : ∀ w, (Instr.makeSlice 50 (.int .i64 0) (.int .i64 64)).run Try.prog w = .ok (.slice (some ⟨w.heap.size, 0, none⟩) 0 64) (w.alloc (.cells [Value.int .u8 0, Value.int .u8 0, Value.int .u8 0, Value.int .u8 0, Value.int .u8 0, Value.int .u8 0, Value.int .u8 0, Value.int .u8 0, Value.int .u8 0, Value.int .u8 0, Value.int .u8 0, Value.int .u8 0, Value.int .u8 0, Value.int .u8 0, Value.int .u8 0, Value.int .u8 0, Value.int .u8 0, Value.int .u8 0, Value.int .u8 0, Value.int .u8 0, Value.int .u8 0, Value.int .u8 0, Value.int .u8 0, Value.int .u8 0, Value.int .u8 0, Value.int .u8 0, Value.int .u8 0, Value.int .u8 0, Value.int .u8 0, Value.int .u8 0, Value.int .u8 0, Value.int .u8 0, Value.int .u8 0, Value.int .u8 0, Value.int .u8 0, Value.int .u8 0, Value.int .u8 0, Value.int .u8 0, Value.int .u8 0, Value.int .u8 0, Value.int .u8 0, Value.int .u8 0, Value.int .u8 0, Value.int .u8 0, Value.int .u8 0, Value.int .u8 0, Value.int .u8 0, Value.int .u8 0, Value.int .u8 0, Value.int .u8 0, Value.int .u8 0, Value.int .u8 0, Value.int .u8 0, Value.int .u8 0, Value.int .u8 0, Value.int .u8 0, Value.int .u8 0, Value.int .u8 0, Value.int .u8 0, Value.int .u8 0, Value.int .u8 0, Value.int .u8 0, Value.int .u8 0, Value.int .u8 0].toArray 5)) := fun _ => by kernel_rfl
  clear i0
  go_enter Try.func23, Try.ntmps23
  go_upto_region 4 with (fail)
  clear hmk
  refine wp_gen (fun W => Below w.heap.size w W ∧ Seg W w.heap.size 5 (.slice (some ⟨w.heap.size, 0, none⟩) 0 64) (n8s (hexOf (d.data.toList.take 0)))) ?_ ?_
  · exact ⟨(Below.refl _ _).alloc (Nat.le_refl _) _, .inr ⟨w.heap.size, 0, 64, _, rfl, Nat.le_refl _, heap_new w _, (show (0 : Nat) ≤ 64 by decide), by decide, by decide, fun j hj => by cases hj⟩⟩
  rintro W ⟨hW, ho⟩
  go_wp2
  go_loopw [4, 15] (fun o k wr => ∃ i : Nat, i ≤ 32 ∧ k = .int .i64 i ∧ Seg wr w.heap.size 5 o (n8s (hexOf (d.data.toList.take i))) ∧ Below w.heap.size w wr) (fun _ k _ => 32 - (intOf k).toNat)
  case atStart => exact ⟨0, by omega, rfl, ho, hW⟩
  case round =>
    obtain ⟨i, hi, rfl, hgo, hbl⟩ := hrel
    have hdl : d.data.toList.length = 32 := by rw [← h]; simp
    by_cases hli : i < 32
    · have hlI : (i : Int) < 32 := by omega
      have hget : ∀ k (h : k < d.size), ((d[k]'h).toNat : Int) = n8 (at8 d.data.toList k) := by
        intro k h
        have h' : k < d.data.size := h
        have e : d[k] = d.data[k] := rfl
        rw [e]
        unfold n8 at8
        rw [List.getD_eq_getElem?_getD, Array.getElem?_toList, Array.getElem?_eq_getElem h', Option.getD_some]
      have hid : i < d.size := by omega
      have hc1 := hget i hid
      have hidI : (i : Int) < (d.size : Int) := by omega
      have Hgo := Lib.hid hgo
      have Hbl := Lib.hid hbl
      clear hget hgo hbl
      obtain ⟨x, hx⟩ : ∃ x, x = at8 d.data.toList i := ⟨_, rfl⟩
      rw [← hx] at hc1
      have hx256 : x.toNat < 256 := x.toNat_lt
      obtain ⟨p, hp⟩ : ∃ p, p = x.toNat / 16 := ⟨_, rfl⟩
      obtain ⟨q, hq⟩ : ∃ q, q = x.toNat % 16 := ⟨_, rfl⟩
      have g0 : n8 x / 16 = (p : Int) := by rw [hp]; simp [n8]
      have g1 : bits .and .u8 (n8 x) 15 = (q : Int) := by rw [hq]; exact and15 x
      obtain ⟨p2, g2⟩ := digit_at_hex p (by omega)
      obtain ⟨p3, g3⟩ := digit_at_hex q (by omega)
      have g4 : (p : Int) < 16 := by omega
      have g5 : (q : Int) < 16 := by omega
      have Hp := Lib.hid hp
      have Hq := Lib.hid hq
      clear hp hq hx256
      have Hx := Lib.hid hx
      clear hx
      go_upto_region 7 with (fail)
      have hlen4 : (n8s (hexOf (d.data.toList.take i))).length = 2 * i := by rw [n8s_length, length_hexOf, List.length_take, hdl, Nat.min_eq_left hi]
      have hbA := ((Below.refl wr.heap.size wr).alloc (Nat.le_refl _) (.cells #[.int .u8 (n8 (hexDigit p)), .int .u8 (n8 (hexDigit q))] 5))
      have hbD : Below wr.heap.size wr (wr.alloc (.cells #[.int .u8 (n8 (hexDigit p)), .int .u8 (n8 (hexDigit q))] 5)).drew := ⟨hbA.os, hbA.tape, hbA.output, hbA.size, hbA.block⟩
      have hbs := Hbl.out.size
      obtain ⟨v4, w4, hr4, hg4, hk4, hown4⟩ := run_append_seg (P := Try.prog) (wr.alloc (.cells #[.int .u8 (n8 (hexDigit p)), .int .u8 (n8 (hexDigit q))] 5)).drew w.heap.size 50 50 50 5 i5 (.int .u8 0) Try.underlying50 hi5 hz5 hs5 rfl u4 _ (Hgo.out.below hbD) (.slice (some ⟨wr.heap.size, 0, none⟩) 2 2) 2 (n8s [hexDigit p, hexDigit q])
        (Src.ofSlice _ Try.underlying50 ⟨wr.heap.size, 0, none⟩ 2 2 (n8s [hexDigit p, hexDigit q]) rfl (news_of (heap_new wr _)) (by simp [n8s, Value.oneCell'])) (by rw [hlen4]; simp [maxLen]; omega) (by rw [hlen4, hb5]; omega) (by simp; omega)
      have hk5 : Below w.heap.size w w4 := (Hbl.out.trans (hbD.mono hbs)).trans (hk4.below (by simp; omega) (fun k hk => (Hgo.out.lt k hk.symm).1))
      rw [n8s_append, show [hexDigit p, hexDigit q] = [hexDigit ((at8 d.data.toList i).toNat / 16), hexDigit ((at8 d.data.toList i).toNat % 16)] by rw [← Hx.out, Hp.out, Hq.out], ← hexOf_step _ i (by rw [hdl]; exact hli)] at hg4
      have Hr4 := Lib.hid hr4
      have Hg4 := Lib.hid hg4
      have Hk5 := Lib.hid hk5
      clear hr4 hg4 hk4 hown4 hk5 hlen4 hbA hbD hbs
      go_region_law (refine step_append_run rfl (.tmp 18) (.tmp 29) 50 50 rfl _ _ rfl rfl _ _ Hr4.out ?_)
      all_goals go_wp2
      all_goals (refine ⟨⟨i + 1, by omega, by go_num, Hg4.out, Hk5.out⟩, ?_⟩; simp [intOf]; omega)
    · have hlI : ¬ (i : Int) < 32 := by omega
      have hall : d.data.toList.take i = d.data.toList := List.take_of_length_le (by omega)
      rw [hall] at hgo
      have hcv := run_convert_seg hgo
      have Hbl := Lib.hid hbl
      clear hbl hgo hall
      go_wp2
      go_ret2
      exact ⟨rfl, Hbl.out⟩

end Go.Proofs.Ytkkoldfaplonaaa
