/- hopmeshlaw46.awake -/
import Derived.Test.YtnfcohpljgmaiaaAx0
import Derived.Test.YtnfcohpljgmaiaaAx1
import Derived.Test.YtnfcohpljgmaiaaAx2
import Derived.Test.YtnfcohpljgmaiaaAx3
import Derived.Test.YtnfcohpljgmaiaaImgX
namespace Go.Proofs.Ytnfcohpljgmaiaa
open Go.RowKit Go.Proofs.YtnfcohpljgmaiaaW.PrintLast Go.Proofs.YtnfcohpljgmaiaaW.PrintWords

abbrev aP0 : ByteArray := psum 7 0 ⟨#[97, 98, 99, 100]⟩
abbrev aP1 : ByteArray := psum 7 1 ⟨#[101]⟩
theorem aP1_eq : aP1 = S8 (dsum [112, 97, 103, 101, 0, 7, 0, 1, 101]) := by
  rw [aP1, psum_val 7 1 _ (by decide) (by decide) (by decide)]
  rfl
theorem aP0_eq : aP0 = S8 (dsum [112, 97, 103, 101, 0, 7, 0, 0, 97, 98, 99, 100]) := by
  rw [aP0, psum_val 7 0 _ (by decide) (by decide) (by decide)]
  rfl
theorem aP0_size : aP0.size = 32 := by rw [aP0_eq]; simp [S8, ByteArray.size, length_dsumI]
theorem aP1_size : aP1.size = 32 := by rw [aP1_eq]; simp [S8, ByteArray.size, length_dsumI]
theorem aMan : okMan 7 5 4 2 [aP0, aP1] = true := by
  unfold okMan all32
  rw [show okSizes 7 4 2 = true from by decide, show decide _ = true from decide_eq_true (by decide)]
  simp [aP0_size, aP1_size]
theorem aMake : fMake 7 ⟨#[97, 98, 99, 100, 101]⟩ 4 2 = some (7, 5, 4, 2, [aP0, aP1], 0) := by
  have e0 : pg ⟨#[97, 98, 99, 100, 101]⟩ 4 0 = ⟨#[97, 98, 99, 100]⟩ := by decide +kernel
  have e1 : pg ⟨#[97, 98, 99, 100, 101]⟩ 4 1 = ⟨#[101]⟩ := by decide +kernel
  have ec : cnt 5 4 = 2 := by decide
  have es : ByteArray.size ⟨#[97, 98, 99, 100, 101]⟩ = 5 := rfl
  unfold fMake
  rw [if_pos (by decide), es]
  simp only [Nat.reduceEqDiff, if_false, Int.cast_ofNat_Int, ec]
  rw [if_neg (by omega)]
  simp [digs, List.range, List.range.loop, e0, e1]
theorem aPackets : A.image_Packets.f 7 5 4 2 [aP0, aP1] 0 = some (2, 0) := by
  unfold A.image_Packets.f A.image_page.f A.image_Check.f fCheck
  rw [aMan]
  kernel_rfl
theorem aSpan : A.image_Span.f 7 5 4 2 [aP0, aP1] 1 0 = some (4, 5, 0) := by
  have h : A.image_Packets.f 7 5 4 2 [aP0, aP1] 1 = some (1, 0) := by
    unfold A.image_Packets.f A.image_page.f A.image_Check.f fCheck
    rw [aMan]
    kernel_rfl
  unfold A.image_Span.f
  rw [h]
  show (some ((1 : Int), (0 : Int))).bind _ = some (4, 5, 0)
  have h2 : A.image_size.f 7 5 4 2 [aP0, aP1] 1 = some 1 := by kernel_rfl
  simp only [Option.bind_some, h2]
  rw [if_pos trivial, if_neg (by omega), if_neg (by omega)]
  decide +kernel
abbrev aS : ByteArray := ⟨(numBytes [2, 7, 4, 5, 2, 4, 1, 2]).toArray⟩ ++ joinB [aP0, aP1] ⟨#[]⟩
theorem aJoin_size : (joinB [aP0, aP1] ⟨#[]⟩).size = 64 := by
  have h0 := aP0_size
  have h1 := aP1_size
  have key : ∀ x y : ByteArray, (joinB [x, y] ⟨#[]⟩).size = x.size + y.size := fun x y => by
    show ((Lib.join [x.data.toList, y.data.toList] []).toArray).size = _
    rw [Lib.join_cons]
    have e : Lib.joinTail [] [y.data.toList] = y.data.toList := by
      unfold Lib.joinTail
      simp only [List.map_cons, List.map_nil, List.nil_append, List.flatten_cons, List.flatten_nil, List.append_nil]
    rw [e]
    show (x.data.toList ++ y.data.toList).toArray.size = x.data.size + y.data.size
    rw [List.size_toArray, List.length_append, Array.length_toList, Array.length_toList]
  rw [key, h0, h1]
theorem aS_size : aS.size = 73 := by
  rw [aS, ByteArray.size_append, aJoin_size]
  rfl
theorem aEncode : A.image_Encode.f 7 5 4 2 [aP0, aP1] = some (aS, 0) := by
  have hj := aJoin_size
  have hn : A.image_number.f [2, 7, 4, 5, 2, 4, 1, 2] = some ⟨(numBytes [2, 7, 4, 5, 2, 4, 1, 2]).toArray⟩ := by
    unfold A.image_number.f fNumber
    rw [if_pos (by decide)]
  have hjo : A.strings_Join.f [aP0, aP1] ⟨#[]⟩ = some (joinB [aP0, aP1] ⟨#[]⟩) := by
    unfold A.strings_Join.f fJoin
    rw [if_pos ⟨by simp, by omega⟩]
  have hsz : ByteArray.size ⟨(numBytes [2, 7, 4, 5, 2, 4, 1, 2]).toArray⟩ = 9 := rfl
  unfold A.image_Encode.f A.image_Check.f fCheck
  rw [aMan]
  simp only [Option.bind_some, if_true]
  unfold A.image_encode.f
  rw [hn, hjo]
  simp only [Option.bind_some]
  rw [if_pos (by omega)]
  rfl
theorem aHead : aS.extract 0 9 = ⟨#[0, 7, 0, 0, 0, 5, 0, 4, 2]⟩ := by
  rw [aS, ByteArray.extract_append_eq_left (by rfl)]
  decide +kernel
theorem aVerify : A.image_Verify.f 7 5 4 2 [aP0, aP1] 0 ⟨#[97, 98, 99, 101]⟩ = some 20 := by
  have h0 : A.image_sum.f 7 0 ⟨#[97, 98, 99, 101]⟩ = some (psum 7 0 ⟨#[97, 98, 99, 101]⟩) := psum_some 7 0 _ (by decide) (by decide) (by decide)
  have h1 : ¬ (psum 7 0 ⟨#[97, 98, 99, 101]⟩).toList = aP0.toList := by
    rw [psum_val 7 0 _ (by decide) (by decide) (by decide), aP0_eq]
    show ¬ (S8 (dsum [112, 97, 103, 101, 0, 7, 0, 0, 97, 98, 99, 101])).toList = _
    rw [dsum_reckon 1 _ (by decide), dsum_reckon 1 _ (by decide)]
    decide +kernel
  have hp : A.image_page.f 7 5 4 2 [aP0, aP1] 0 = some 0 := by
    unfold A.image_page.f A.image_Check.f fCheck
    rw [aMan]
    kernel_rfl
  unfold A.image_Verify.f
  rw [hp, h0]
  have hs : A.image_size.f 7 5 4 2 [aP0, aP1] 0 = some 4 := by kernel_rfl
  rw [hs]
  simp only [Option.bind_some, if_true]
  rw [if_pos (show ((ByteArray.size ⟨#[97, 98, 99, 101]⟩ : Nat) : Int) = 4 from rfl), if_pos (by decide), if_pos (by simp)]
  exact if_neg h1

set_option maxRecDepth 100000 in
set_option maxHeartbeats 4000000 in
theorem cAwake (r : Bool) (w : World) (h : some true = some r) : Calls Try.prog 11 #[] w fun e w' => e = .returned (.bool r) ∧ Below w.heap.size w w' := by
  obtain rfl := Option.some.inj h
  obtain ⟨p0, hp0⟩ : ∃ p, p = aP0 := ⟨_, rfl⟩
  obtain ⟨p1, hp1⟩ : ∃ p, p = aP1 := ⟨_, rfl⟩
  obtain ⟨sS, hsS⟩ : ∃ p, p = aS := ⟨_, rfl⟩
  have hMake : ∀ w, Calls Try.prog 12 #[.int .i64 7, .string ⟨#[97, 98, 99, 100, 101]⟩, .int .i64 4, .int .i64 2] w fun e w' => ∃ v4_ : Value, e = .returned (.tuple #[.agg #[.int .i64 7, .int .i64 5, .int .i64 4, .int .i64 2, v4_], .int .i64 0]) ∧ Kd.R Kd.string 9 w' w.heap.size (fun _ => True) v4_ [p0, p1] ∧ Below w.heap.size w w' := by
    rw [hp0, hp1]
    exact fun w => make_any 7 _ 4 2 7 5 4 2 [aP0, aP1] 0 w aMake
  have hPack : ∀ (A : Option Addr) (c : Nat) (w : World), Kd.C Kd.string w A 2 [p0, p1] → 2 ≤ c → Calls Try.prog 16 #[.agg #[.int .i64 7, .int .i64 5, .int .i64 4, .int .i64 2, .slice A 2 c], .int .i64 0] w (Ret (.tuple #[.int .i64 2, .int .i64 0]) w) := by
    rw [hp0, hp1]
    exact fun A c w h1 h2 => Go.Proofs.Ytnfcohpljgmaiaa.A.image_Packets.calls 7 5 4 2 A c [aP0, aP1] 0 2 0 w h1 h2 aPackets
  have hSpan : ∀ (A : Option Addr) (c : Nat) (w : World), Kd.C Kd.string w A 2 [p0, p1] → 2 ≤ c → Calls Try.prog 18 #[.agg #[.int .i64 7, .int .i64 5, .int .i64 4, .int .i64 2, .slice A 2 c], .int .i64 1, .int .i64 0] w (Ret (.tuple #[.int .i64 4, .int .i64 5, .int .i64 0]) w) := by
    rw [hp0, hp1]
    exact fun A c w h1 h2 => Go.Proofs.Ytnfcohpljgmaiaa.A.image_Span.calls 7 5 4 2 A c [aP0, aP1] 1 0 4 5 0 w h1 h2 aSpan
  have hEnc : ∀ (A : Option Addr) (c : Nat) (w : World), Kd.C Kd.string w A 2 [p0, p1] → 2 ≤ c → Calls Try.prog 21 #[.agg #[.int .i64 7, .int .i64 5, .int .i64 4, .int .i64 2, .slice A 2 c]] w (Ret (.tuple #[.string sS, .int .i64 0]) w) := by
    rw [hp0, hp1, hsS]
    exact fun A c w h1 h2 => Go.Proofs.Ytnfcohpljgmaiaa.A.image_Encode.calls 7 5 4 2 A c [aP0, aP1] aS 0 w h1 h2 aEncode
  have hVer : ∀ (A : Option Addr) (c : Nat) (w : World), Kd.C Kd.string w A 2 [p0, p1] → 2 ≤ c → Calls Try.prog 26 #[.agg #[.int .i64 7, .int .i64 5, .int .i64 4, .int .i64 2, .slice A 2 c], .int .i64 0, .string ⟨#[97, 98, 99, 101]⟩] w (Ret (.int .i64 20) w) := by
    rw [hp0, hp1]
    exact fun A c w h1 h2 => Go.Proofs.Ytnfcohpljgmaiaa.A.image_Verify.calls 7 5 4 2 A c [aP0, aP1] 0 _ 20 w h1 h2 aVerify
  have hSum : ∀ w : World, Calls Try.prog 32 #[.string ⟨#[112, 97, 103, 101, 0, 7, 0, 1, 101]⟩] w (Ret (.string p1) w) := by
    rw [hp1, aP1_eq]
    exact fun w => dsum_any ⟨#[112, 97, 103, 101, 0, 7, 0, 1, 101]⟩ w (by decide)
  have hz0 : p0.size = 32 := by rw [hp0]; exact aP0_size
  have hzs : sS.size = 73 := by rw [hsS]; exact aS_size
  have hhd : sS.extract 0 9 = ⟨#[0, 7, 0, 0, 0, 5, 0, 4, 2]⟩ := by rw [hsS]; exact aHead
  have HMake := Lib.hid hMake
  have HPack := Lib.hid hPack
  have HSpan := Lib.hid hSpan
  have HEnc := Lib.hid hEnc
  have HVer := Lib.hid hVer
  have HSum := Lib.hid hSum
  clear hMake hPack hSpan hEnc hVer hSum hp0 hp1 hsS
  go_enter Try.func11, Try.ntmps11
  go_upto_region 2 with (go_at_call 12; refine (HMake.out _).mono ?_; rintro e w1 ⟨vv, rfl, hr, hb⟩; obtain ⟨A, c, rfl, hc, hC⟩ := Kd.R_reads hr; have HC := Lib.hid hC; have HCC := Lib.hid hc; have HB := Lib.hid hb; clear hr hb hC hc)
  refine wp_gen (fun W => W.heap[w1.heap.size]? = some (.cells #[.int .i64 7, .int .i64 5, .int .i64 4, .int .i64 2, .slice A 2 c] 25 (0, 0)) ∧ Kd.C Kd.string W A 2 [p0, p1] ∧ Below w.heap.size w W) ⟨heap_new w1 _, Kd.C_alloc HC.out _, HB.out.alloc HB.out.size _⟩ ?_
  generalize w1.heap.size = b1
  have hc2 : 2 ≤ c := HCC.out
  replace HCC := Lib.hid hc2
  clear HC HB hc2
  rintro W ⟨hk, hC, hB⟩
  have Hk := Lib.hid hk
  have HC := Lib.hid hC
  have HB := Lib.hid hB
  have z0 : W.cell? ⟨b1, 0, none⟩ = some (.int .i64 7) := (blk_cell hk 0).trans rfl
  have z1 : W.cell? ⟨b1, 1, none⟩ = some (.int .i64 5) := (blk_cell hk 1).trans rfl
  have z2 : W.cell? ⟨b1, 2, none⟩ = some (.int .i64 4) := (blk_cell hk 2).trans rfl
  have z3 : W.cell? ⟨b1, 3, none⟩ = some (.int .i64 2) := (blk_cell hk 3).trans rfl
  have z4 : W.cell? ⟨b1, 4, none⟩ = some (.slice A 2 c) := (blk_cell hk 4).trans rfl
  clear hk hC hB
  go_upto_region 5 with (first | (go_at_call 16; (with_reducible refine (HPack.out A c _ HC.out HCC.out).mono ?_); rintro e w2 ⟨rfl, hb⟩; have hk := blk_below Hk.out hb; replace Hk := Lib.hid hk; have hcc := Kd.C_below HC.out hb; replace HC := Lib.hid hcc; replace HB := Lib.hid (below_then HB.out HB.out.size hb); clear z0 z1 z2 z3 z4; have z0 : w2.cell? ⟨b1, 0, none⟩ = some (.int .i64 7) := (blk_cell hk 0).trans rfl; have z1 : w2.cell? ⟨b1, 1, none⟩ = some (.int .i64 5) := (blk_cell hk 1).trans rfl; have z2 : w2.cell? ⟨b1, 2, none⟩ = some (.int .i64 4) := (blk_cell hk 2).trans rfl; have z3 : w2.cell? ⟨b1, 3, none⟩ = some (.int .i64 2) := (blk_cell hk 3).trans rfl; have z4 : w2.cell? ⟨b1, 4, none⟩ = some (.slice A 2 c) := (blk_cell hk 4).trans rfl; clear hk hcc hb) | (go_at_call 18; (with_reducible refine (HSpan.out A c _ HC.out HCC.out).mono ?_); rintro e w2 ⟨rfl, hb⟩; have hk := blk_below Hk.out hb; replace Hk := Lib.hid hk; have hcc := Kd.C_below HC.out hb; replace HC := Lib.hid hcc; replace HB := Lib.hid (below_then HB.out HB.out.size hb); clear z0 z1 z2 z3 z4; have z0 : w2.cell? ⟨b1, 0, none⟩ = some (.int .i64 7) := (blk_cell hk 0).trans rfl; have z1 : w2.cell? ⟨b1, 1, none⟩ = some (.int .i64 5) := (blk_cell hk 1).trans rfl; have z2 : w2.cell? ⟨b1, 2, none⟩ = some (.int .i64 4) := (blk_cell hk 2).trans rfl; have z3 : w2.cell? ⟨b1, 3, none⟩ = some (.int .i64 2) := (blk_cell hk 3).trans rfl; have z4 : w2.cell? ⟨b1, 4, none⟩ = some (.slice A 2 c) := (blk_cell hk 4).trans rfl; clear hk hcc hb) | (go_at_call 21; (with_reducible refine (HEnc.out A c _ HC.out HCC.out).mono ?_); rintro e w2 ⟨rfl, hb⟩; have hk := blk_below Hk.out hb; replace Hk := Lib.hid hk; have hcc := Kd.C_below HC.out hb; replace HC := Lib.hid hcc; replace HB := Lib.hid (below_then HB.out HB.out.size hb); clear z0 z1 z2 z3 z4; have z0 : w2.cell? ⟨b1, 0, none⟩ = some (.int .i64 7) := (blk_cell hk 0).trans rfl; have z1 : w2.cell? ⟨b1, 1, none⟩ = some (.int .i64 5) := (blk_cell hk 1).trans rfl; have z2 : w2.cell? ⟨b1, 2, none⟩ = some (.int .i64 4) := (blk_cell hk 2).trans rfl; have z3 : w2.cell? ⟨b1, 3, none⟩ = some (.int .i64 2) := (blk_cell hk 3).trans rfl; have z4 : w2.cell? ⟨b1, 4, none⟩ = some (.slice A 2 c) := (blk_cell hk 4).trans rfl; clear hk hcc hb))
  clear z0 z1 z2 z3 z4
  have hst := strs_of HC.out
  obtain ⟨g, off, hA, hc0⟩ := hst 0 (by simp)
  obtain ⟨g1, off1, hA1, hc1⟩ := hst 1 (by simp)
  clear hst
  subst hA
  cases hA1
  have z0 : ∀ X : Ext w2.drew, X.v.cell? ⟨b1, 0, none⟩ = some (.int .i64 7) := fun X => (X.cell _ _ (lt_of_block Hk.out)).trans ((blk_cell (blk_drew Hk.out) 0).trans rfl)
  have z1 : ∀ X : Ext w2.drew, X.v.cell? ⟨b1, 1, none⟩ = some (.int .i64 5) := fun X => (X.cell _ _ (lt_of_block Hk.out)).trans ((blk_cell (blk_drew Hk.out) 1).trans rfl)
  have z2 : ∀ X : Ext w2.drew, X.v.cell? ⟨b1, 2, none⟩ = some (.int .i64 4) := fun X => (X.cell _ _ (lt_of_block Hk.out)).trans ((blk_cell (blk_drew Hk.out) 2).trans rfl)
  have z3 : ∀ X : Ext w2.drew, X.v.cell? ⟨b1, 3, none⟩ = some (.int .i64 2) := fun X => (X.cell _ _ (lt_of_block Hk.out)).trans ((blk_cell (blk_drew Hk.out) 3).trans rfl)
  have z4 : ∀ X : Ext w2.drew, X.v.cell? ⟨b1, 4, none⟩ = some (.slice (some ⟨g, off, none⟩) 2 c) := fun X => (X.cell _ _ (lt_of_block Hk.out)).trans ((blk_cell (blk_drew Hk.out) 4).trans rfl)
  have q0 : ∀ X : Ext w2.drew, X.v.cell? ⟨g, off, none⟩ = some (.string p0) := fun X => (X.cell _ _ (show g < w2.heap.size from cell_lt hc0)).trans hc0
  have q1 : ∀ X : Ext w2.drew, X.v.cell? ⟨g, off + 1, none⟩ = some (.string p1) := fun X => (X.cell _ _ (show g < w2.heap.size from cell_lt hc1)).trans hc1
  have hV : ∀ X : Ext w2.drew, Calls Try.prog 26 #[.agg #[.int .i64 7, .int .i64 5, .int .i64 4, .int .i64 2, .slice (some ⟨g, off, none⟩) 2 c], .int .i64 0, .string ⟨#[97, 98, 99, 101]⟩] X.v (Ret (.int .i64 20) X.v) := fun X => HVer.out _ c _ (Kd.C_below HC.out (below_undrew X.below)) HCC.out
  have HV := Lib.hid hV
  clear hc0 hc1 hV HVer HEnc HSpan HPack HMake
  refine wp_region_ext 63 (by kernel_rfl) (by kernel_rfl) ?_
  simp only [List.take_succ_cons, List.take_zero]
  iterate 63 ((with_reducible refine wpX_step (fun K hK => ?_)); go_simp; first | ((with_reducible refine hK _ ?_); clear hK K) | ((with_reducible refine ⟨_, fun X => HSum.out X.v, hK _ ?_⟩); clear hK K) | ((with_reducible refine ⟨_, fun X => HV.out X, hK _ ?_⟩); clear hK K))
  refine wpX_nil ?_
  intro X
  simp only [List.drop_succ_cons, List.drop_zero]
  have hX := below_then HB.out HB.out.size (w2 := X.v) (below_undrew X.below)
  go_wp2
  go_ret
  exact ⟨rfl, hX⟩

end Go.Proofs.Ytnfcohpljgmaiaa
