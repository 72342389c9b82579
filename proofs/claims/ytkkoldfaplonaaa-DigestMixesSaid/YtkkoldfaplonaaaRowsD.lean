/- What the rows of DigestMixes and DigestCompresses need: their arguments opened. -/
import Derived.Test.YtkkoldfaplonaaaLawComp
import Derived.Test.YtkkoldfaplonaaaOpen
namespace Go.Proofs.Ytkkoldfaplonaaa
open Go.RowKit Go.ChangeShapes Go.WideShapes

theorem u32_of_ints (l : List Int) (h : ∀ x ∈ l, (Lit.int .u32 x).wf = true) : ∃ m : List UInt32, m.length = l.length ∧ l.map (Value.int .u32) = u32s m := by
  refine ⟨l.map fun x => UInt32.ofNat x.toNat, List.length_map _, ?_⟩
  unfold u32s
  rw [List.map_map]
  refine List.map_congr_left fun x hx => ?_
  have hb := bounds_u32 (h x hx)
  show Value.int .u32 x = Value.int .u32 (n32 (UInt32.ofNat x.toNat))
  unfold n32
  rw [UInt32.toNat_ofNat']
  congr 1
  omega
theorem agg_of {cs : Array Value} {l : List Value} (h : (Value.agg cs).cells.toList = l) : cs = l.toArray := by
  have h' : cs.toList = l := h
  rw [← h']

theorem mixes_row (m0 m1 m2 : List UInt32) (h0 : m0.length = 4) (h1 : m1.length = 4) (h2 : m2.length = 2) (w : World) :
    Calls Try.prog 6 #[.agg (u32s m0).toArray, .agg (u32s m1).toArray, .agg (u32s m2).toArray] w fun e w' => e = .returned (.bool true) ∧ Below w.heap.size w w' := by
  match m0, m1, m2, h0, h1, h2 with
  | [a, b, c, d], [a', b', c', d'], [x, y], _, _, _ => exact mixes_law a b c d a' b' c' d' x y w

theorem open_input {H : Type} {enc : TypeId × Value → H} {w : World} {base : Nat} {spare : Nat → Bool} {held : Bool} {fuel : Nat} {cs : List Value} {x : DataW H × List MemPlace}
    (h : DataW.trod enc Try.prog w base spare held fuel 35 cs = some x) : ∃ (m0 m1 m2 : List UInt32) (t : Nat), m0.length = 4 ∧ m1.length = 8 ∧ m2.length = 16 ∧ t < 18446744073709551616 ∧ cs = u32s m0 ++ (u32s m1 ++ (u32s m2 ++ [Value.int .u64 (t : Int)])) := by
  obtain ⟨fs, hu, hfs⟩ : ∃ fs : Array Field, Try.prog.underlying 35 = some (.struct fs) ∧ fs.map (fun f => (f.type, f.offset)) = #[(30, 0), (31, 4), (32, 12), (33, 28)] := ⟨_, Try.underlying35, by simp⟩
  obtain ⟨xs, n, -, -, hlen, hxl, hfd⟩ := DataW.trod_struct hu h
  have hcl : cs.length = 29 := by
    rw [hlen]
    kernel_rfl
  have hsz : fs.size = 4 := by
    have := congrArg Array.size hfs
    simpa using this
  have hft : ∀ i (hi : i < 4), ∃ f, fs[i]? = some f ∧ (f.type, f.offset) = ([(30, 0), (31, 4), (32, 12), (33, 28)] : List (Nat × Nat)).getD i (0, 0) := by
    intro i hi
    refine ⟨fs[i], Array.getElem?_eq_getElem (by omega), ?_⟩
    have h1 : (fs.map (fun f => (f.type, f.offset)))[i]? = some (fs[i].type, fs[i].offset) := by
      rw [Array.getElem?_map, Array.getElem?_eq_getElem (by omega)]
      rfl
    rw [hfs] at h1
    have hi' : i = 0 ∨ i = 1 ∨ i = 2 ∨ i = 3 := by omega
    rcases hi' with rfl | rfl | rfl | rfl <;> exact (Option.some.inj h1).symm
  have hpiece : ∀ i (hi : i < 4) (t o : Nat), ([(30, 0), (31, 4), (32, 12), (33, 28)] : List (Nat × Nat)).getD i (0, 0) = (t, o) →
      ∃ y, DataW.trod enc Try.prog w base spare held n t ((cs.drop o).take (Try.prog.cellsOf t)) = some y := by
    intro i hi t o hto
    obtain ⟨f, hf, he⟩ := hft i hi
    rw [hto] at he
    injection he with he1 he2
    have h1 := hfd i f hf
    rw [he1, he2, List.getElem?_eq_getElem (by omega)] at h1
    exact ⟨_, h1⟩
  have c4 : Try.prog.cellsOf 30 = 4 := by kernel_rfl
  have c8 : Try.prog.cellsOf 31 = 8 := by kernel_rfl
  have c16 : Try.prog.cellsOf 32 = 16 := by kernel_rfl
  have c64 : Try.prog.cellsOf 33 = 1 := by kernel_rfl
  have c32 : Try.prog.cellsOf 29 = 1 := by kernel_rfl
  obtain ⟨y0, g0⟩ := hpiece 0 (by omega) _ _ rfl
  obtain ⟨y1, g1⟩ := hpiece 1 (by omega) _ _ rfl
  obtain ⟨y2, g2⟩ := hpiece 2 (by omega) _ _ rfl
  obtain ⟨y3, g3⟩ := hpiece 3 (by omega) _ _ rfl
  obtain ⟨l0, hl0, e0, w0⟩ := open_int_array Try.underlying30 Try.underlying29 c32 c4 g0
  obtain ⟨l1, hl1, e1, w1⟩ := open_int_array Try.underlying31 Try.underlying29 c32 c8 g1
  obtain ⟨l2, hl2, e2, w2⟩ := open_int_array Try.underlying32 Try.underlying29 c32 c16 g2
  obtain ⟨t, e3, -, w3⟩ := DataW.trod_int Try.underlying33 g3
  rw [c4] at e0
  rw [c8] at e1
  rw [c16] at e2
  rw [c64] at e3
  obtain ⟨m0, hm0, f0⟩ := u32_of_ints l0 w0
  obtain ⟨m1, hm1, f1⟩ := u32_of_ints l1 w1
  obtain ⟨m2, hm2, f2⟩ := u32_of_ints l2 w2
  have hb := bounds_u64 w3
  refine ⟨m0, m1, m2, t.toNat, by omega, by omega, by omega, by omega, ?_⟩
  have s1 : cs = cs.take 4 ++ ((cs.drop 4).take 8 ++ ((cs.drop 12).take 16 ++ (cs.drop 28).take 1)) := by
    have q3 : (cs.drop 28).take 1 = cs.drop 28 := List.take_of_length_le (by rw [List.length_drop]; omega)
    have q2 : (cs.drop 12).take 16 ++ cs.drop 28 = cs.drop 12 := by
      rw [show cs.drop 28 = (cs.drop 12).drop 16 by rw [List.drop_drop], List.take_append_drop]
    have q1 : (cs.drop 4).take 8 ++ cs.drop 12 = cs.drop 4 := by
      rw [show cs.drop 12 = (cs.drop 4).drop 8 by rw [List.drop_drop], List.take_append_drop]
    rw [q3, q2, q1, List.take_append_drop]
  rw [s1]
  rw [List.drop_zero] at e0
  rw [e0, e1, e2, e3, f0, f1, f2]
  have ht : ((t.toNat : Nat) : Int) = t := by omega
  rw [ht]

theorem list4 {α : Type} {l : List α} (h : l.length = 4) : ∃ a0 a1 a2 a3, l = [a0, a1, a2, a3] := by
  match l, h with
  | [a0, a1, a2, a3], _ => exact ⟨_, _, _, _, rfl⟩
theorem compresses_row (p q r : List UInt32) (t : Nat) (hp : p.length = 4) (hq : q.length = 8) (hr : r.length = 16) (ht : t < 18446744073709551616) (last : Bool) (w : World) :
    Calls Try.prog 5 #[.agg (u32s p ++ (u32s q ++ (u32s r ++ [Value.int .u64 (t : Int)]))).toArray, .bool last] w fun e w' => e = .returned (.bool true) ∧ Below w.heap.size w w' := by
  obtain ⟨v0, v1, v2, v3, rfl⟩ := list4 hp
  obtain ⟨h0, h1, h2, h3, h4, h5, h6, h7, rfl⟩ := list8 hq
  obtain ⟨m0, m1, m2, m3, m4, m5, m6, m7, m8, m9, m10, m11, m12, m13, m14, m15, rfl⟩ := list16 hr
  exact compresses_law v0 v1 v2 v3 h0 h1 h2 h3 h4 h5 h6 h7 m0 m1 m2 m3 m4 m5 m6 m7 m8 m9 m10 m11 m12 m13 m14 m15 t ht last w

end Go.Proofs.Ytkkoldfaplonaaa
