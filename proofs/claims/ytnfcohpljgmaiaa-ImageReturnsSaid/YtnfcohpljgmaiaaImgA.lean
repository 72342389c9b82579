/- The contracts of slices.ContainsFunc at image.Check's predicate, and of image.Check. -/
import Derived.Test.YtnfcohpljgmaiaaBx1
namespace Go.Proofs.Ytnfcohpljgmaiaa
open Go.RowKit Go.Proofs.YtnfcohpljgmaiaaW.PrintWords Go.Proofs.Ytnfcohpljgmaiaa.B

def strAt (l : List ByteArray) (j : Nat) : ByteArray := l.getD j ⟨#[]⟩
/-- The strings l lie at a. -/
def StrsAt (w : World) (a : Option Addr) (l : List ByteArray) : Prop := ∀ j, j < l.length → ∃ g off, a = some ⟨g, off, none⟩ ∧ w.cell? ⟨g, off + j, none⟩ = some (.string (strAt l j))
theorem strs_of {w : World} {a : Option Addr} {l : List ByteArray} (h : Kd.string.C w a l.length l) : StrsAt w a l := by
  intro j hj
  obtain ⟨ad, ha, hc⟩ := h.2.2 (by omega)
  have key : ∀ i (hi : i < l.length), w.cell? (ad.add i) = some (.string l[i]) := by
    intro i hi
    obtain ⟨c, -, hk, hcell⟩ := hc i l[i] (List.getElem?_eq_getElem hi)
    have hk' : c = [.string l[i]] := hk
    subst hk'
    have h1 := hcell 0 _ rfl
    have e1 : i * Kd.string.sz + 0 = i := by
      show i * 1 + 0 = i
      omega
    rw [e1] at h1
    exact h1
  obtain ⟨g, off, rfl⟩ := plain_addr (key 0 (by omega))
  have h1 := key j hj
  rw [addr_add] at h1
  refine ⟨g, off, ha, ?_⟩
  rw [h1]
  simp [strAt, List.getD_eq_getElem?_getD, List.getElem?_eq_getElem hj]

theorem pred_yes (s : ByteArray) (w : World) (h : s.size = 32) : Calls Try.prog 45 #[.string s] w fun e w' => e = .returned (.bool false) ∧ w = w' := by
  have hI : (s.size : Int) = 32 := by omega
  go_enter Try.func45, Try.ntmps45
  go_wp2
  go_ret
  exact ⟨rfl, rfl⟩
theorem pred_no (s : ByteArray) (w : World) (h : s.size ≠ 32) : Calls Try.prog 45 #[.string s] w fun e w' => e = .returned (.bool true) ∧ w = w' := by
  have hI : ¬ (s.size : Int) = 32 := by omega
  go_enter Try.func45, Try.ntmps45
  go_wp2
  go_ret
  exact ⟨by simp [hI], rfl⟩

/-- All digests have their length. -/
def all32 (l : List ByteArray) : Bool := l.all fun s => s.size == 32

set_option maxRecDepth 100000 in
set_option maxHeartbeats 1000000 in
theorem index_any (a : Option Addr) (c : Nat) (l : List ByteArray) (w : World) (hc : StrsAt w a l) (hl : l.length ≤ 9223372036854775807) :
    Calls Try.prog 57 #[.slice a l.length c, .func (.func 45) #[] #[]] w fun e w' => (∃ r : Int, e = .returned (.int .i64 r) ∧ decide (0 ≤ r) = !all32 l) ∧ w = w' := by
  have HC := Lib.hid hc
  clear hc
  go_enter Try.func57, Try.ntmps57
  go_wp2
  go_loop [8] (fun i => ∃ j : Nat, j ≤ l.length ∧ i = .int .i64 j ∧ all32 (l.take j) = true) (fun i => l.length - (intOf i).toNat)
  case atStart => exact ⟨0, Nat.zero_le _, rfl, rfl⟩
  case round =>
    obtain ⟨j, hj, rfl, hall⟩ := hrel
    by_cases hlt : j < l.length
    · have hltI : (j : Int) < (l.length : Int) := by omega
      obtain ⟨g, off, rfl, hcell⟩ := HC.out j hlt
      have hmem : strAt l j ∈ l := by
        simp [strAt, List.getD_eq_getElem?_getD, List.getElem?_eq_getElem hlt]
      have htk : l.take (j + 1) = l.take j ++ [strAt l j] := by
        rw [List.take_add_one]
        simp [strAt, List.getD_eq_getElem?_getD, List.getElem?_eq_getElem hlt]
      by_cases hs : (strAt l j).size = 32
      · have hall2 : all32 (l.take (j + 1)) = true := by
          rw [htk]
          unfold all32 at *
          rw [List.all_append, hall]
          simp [hs]
        have Hall := Lib.hid hall2
        have Hs := Lib.hid hs
        clear hall hall2 hmem htk hs
        go_wp2_with (go_at_call 45; refine (pred_yes _ _ Hs.out).mono ?_; rintro e w1 ⟨rfl, rfl⟩)
        go_round
        case rel => exact ⟨j + 1, by omega, by go_num, Hall.out⟩
        case measure => simp [intOf]; omega
      · have hbad : all32 l = false := by
          unfold all32
          rw [List.all_eq_false]
          exact ⟨_, hmem, by simp [hs]⟩
        have Hbad := Lib.hid hbad
        have Hs := Lib.hid hs
        clear hall hbad hmem htk hs
        go_wp2_with (go_at_call 45; refine (pred_no _ _ Hs.out).mono ?_; rintro e w1 ⟨rfl, rfl⟩)
        go_ret
        exact ⟨⟨j, rfl, by rw [Hbad.out]; simp⟩, rfl⟩
    · have hallf : all32 l = true := by
        rw [List.take_of_length_le (by omega)] at hall
        exact hall
      have Hall := Lib.hid hallf
      clear hall hallf
      go_wp2
      go_ret
      exact ⟨⟨-1, rfl, by rw [Hall.out]; rfl⟩, rfl⟩

set_option maxRecDepth 100000 in
set_option maxHeartbeats 1000000 in
theorem contains_any (a : Option Addr) (c : Nat) (l : List ByteArray) (w : World) (hc : StrsAt w a l) (hl : l.length ≤ 9223372036854775807) :
    Calls Try.prog 44 #[.slice a l.length c, .func (.func 45) #[] #[]] w fun e w' => e = .returned (.bool (!all32 l)) ∧ w = w' := by
  have HC := Lib.hid hc
  clear hc
  go_enter Try.func44, Try.ntmps44
  go_wp2_with (go_at_call 57; refine (index_any a c l _ HC.out hl).mono ?_; rintro e w1 ⟨⟨r, rfl, hr⟩, rfl⟩; have Hr := Lib.hid hr; clear hr)
  go_ret
  exact ⟨by rw [Hr.out]; rfl, rfl⟩

/-! ### Check -/
def okSizes (v p k : Int) : Bool := decide (1 ≤ v ∧ v ≤ 65535 ∧ 1 ≤ k ∧ k ≤ 96 ∧ k ≤ p ∧ p ≤ 4096 ∧ p % k = 0 ∧ p ≤ 64 * k)
def cnt (n s : Int) : Int := (n + s - 1) / s
def okMan (V S P K : Int) (l : List ByteArray) : Bool := okSizes V P K && decide (1 ≤ S ∧ S ≤ 65536 ∧ l.length ≤ 64 ∧ (l.length : Int) = cnt S P) && all32 l

theorem cell_lt {w : World} {a : Addr} {v : Value} (h : w.cell? a = some v) : a.block < w.heap.size := by
  unfold World.cell? at h
  split at h
  · rename_i hb; exact (Array.getElem?_eq_some_iff.1 hb).1
  · cases h
theorem strs_below {w w' : World} {a : Option Addr} {l : List ByteArray} (h : StrsAt w a l) (hb : Below w.heap.size w w') : StrsAt w' a l := by
  intro j hj
  obtain ⟨g, off, rfl, e⟩ := h j hj
  exact ⟨g, off, rfl, (hb.cell (cell_lt e)).trans e⟩

theorem sizes_eq (v p k : Int) : image_sizes.f v p k = some (okSizes v p k) := by
  unfold image_sizes.f okSizes
  by_cases h1 : v < 1
  · rw [if_pos h1, decide_eq_false (by omega)]
  by_cases h2 : v > 65535
  · rw [if_neg h1, if_pos h2, decide_eq_false (by omega)]
  by_cases h3 : k < 1
  · rw [if_neg h1, if_neg h2, if_pos h3, decide_eq_false (by omega)]
  by_cases h4 : k > 96
  · rw [if_neg h1, if_neg h2, if_neg h3, if_pos h4, decide_eq_false (by omega)]
  rw [if_neg h1, if_neg h2, if_neg h3, if_neg h4]
  by_cases h5 : p ≥ k
  · by_cases h6 : p ≤ 4096
    · rw [if_pos h5, if_pos h6, if_neg (by omega)]
      have e : Int.tmod p k = p % k := Int.tmod_eq_emod_of_nonneg (by omega)
      rw [e]
      have e2 : wrap64 (64 * k) = 64 * k := by
        unfold wrap64
        omega
      rw [e2]
      by_cases h7 : p % k = 0
      · rw [if_pos h7]
        congr 1
        rw [decide_eq_decide]
        exact ⟨fun h => ⟨by omega, by omega, by omega, by omega, h5, h6, h7, h⟩, fun h => h.2.2.2.2.2.2.2⟩
      · rw [if_neg h7, decide_eq_false (fun h => h7 h.2.2.2.2.2.2.1)]
    · rw [if_pos h5, if_neg h6, decide_eq_false (by omega)]
  · rw [if_neg h5, decide_eq_false (by omega)]
theorem okSizes_facts {v p k : Int} (h : okSizes v p k = true) : 1 ≤ v ∧ v ≤ 65535 ∧ 1 ≤ k ∧ k ≤ 96 ∧ k ≤ p ∧ p ≤ 4096 ∧ p % k = 0 ∧ p ≤ 64 * k := of_decide_eq_true h
theorem count_eq (n s : Int) (h0 : 0 ≤ n) (h1 : n ≤ 1000000000) (h2 : 1 ≤ s) (h3 : s ≤ 1000000) : image_count.f n s = some (cnt n s) := by
  unfold image_count.f cnt
  rw [if_neg (by omega)]
  have e1 : wrap64 (n + s) = n + s := by unfold wrap64; omega
  have e2 : wrap64 (n + s - 1) = n + s - 1 := by unfold wrap64; omega
  have e3 : Int.tdiv (n + s - 1) s = (n + s - 1) / s := Int.tdiv_eq_ediv_of_nonneg (by omega)
  have h5 : 0 ≤ (n + s - 1) / s := Int.ediv_nonneg (by omega) (by omega)
  have h6 : (n + s - 1) / s ≤ n + s - 1 := Int.ediv_le_self _ (by omega)
  have e4 : wrap64 ((n + s - 1) / s) = (n + s - 1) / s := by unfold wrap64; omega
  rw [e1, e2, e3, e4]

set_option maxRecDepth 100000 in
set_option maxHeartbeats 4000000 in
theorem check_man (V S P K0 : Int) (a : Option Addr) (c : Nat) (l : List ByteArray) (w : World) (hc : StrsAt w a l) (hl : l.length ≤ 9223372036854775807) :
    Calls Try.prog 20 #[.agg #[.int .i64 V, .int .i64 S, .int .i64 P, .int .i64 K0, .slice a l.length c]] w (Ret (.int .i64 (if okMan V S P K0 l = true then 0 else 1)) w) := by
  have HC := Lib.hid hc
  clear hc
  have hS : ∀ w, Calls Try.prog 33 #[.int .i64 V, .int .i64 P, .int .i64 K0] w (Ret (.bool (okSizes V P K0)) w) := fun w => by
    refine (image_sizes.calls V P K0 _ w (sizes_eq V P K0)).mono ?_
    rintro e w' ⟨rfl, hd⟩
    exact ⟨rfl, hd.below⟩
  have HS := Lib.hid hS
  clear hS
  generalize hR : (if okMan V S P K0 l = true then (0 : Int) else 1) = R
  have HR := Lib.hid hR
  clear hR
  go_enter Try.func20, Try.ntmps20
  go_upto_region 1 with (fail)
  obtain ⟨b1, hb1⟩ : ∃ b1, b1 = w.heap.size := ⟨_, rfl⟩
  refine wp_gen (fun W => Below w.heap.size w W ∧ W.heap[b1]? = some (.cells #[.int .i64 V, .int .i64 S, .int .i64 P, .int .i64 K0, .slice a l.length c] 25 (0, 0))) ?_ ?_
  · refine ⟨(Below.refl _ _).alloc (Nat.le_refl _) _, ?_⟩
    rw [hb1]
    exact heap_new w _
  rintro W ⟨hW, hblk⟩
  rw [← hb1]
  clear hb1
  have z0 : ∀ X : Ext W.drew, X.v.cell? ⟨b1, 0, none⟩ = some (.int .i64 V) := fun X => (X.cell _ _ (lt_of_block hblk)).trans (by show W.cell? _ = _; rw [cell_of hblk]; rfl)
  have z1 : ∀ X : Ext W.drew, X.v.cell? ⟨b1, 1, none⟩ = some (.int .i64 S) := fun X => (X.cell _ _ (lt_of_block hblk)).trans (by show W.cell? _ = _; rw [cell_of hblk]; rfl)
  have z2 : ∀ X : Ext W.drew, X.v.cell? ⟨b1, 2, none⟩ = some (.int .i64 P) := fun X => (X.cell _ _ (lt_of_block hblk)).trans (by show W.cell? _ = _; rw [cell_of hblk]; rfl)
  have z3 : ∀ X : Ext W.drew, X.v.cell? ⟨b1, 3, none⟩ = some (.int .i64 K0) := fun X => (X.cell _ _ (lt_of_block hblk)).trans (by show W.cell? _ = _; rw [cell_of hblk]; rfl)
  have z4 : ∀ X : Ext W.drew, X.v.cell? ⟨b1, 4, none⟩ = some (.slice a l.length c) := fun X => (X.cell _ _ (lt_of_block hblk)).trans (by show W.cell? _ = _; rw [cell_of hblk]; rfl)
  have HW := Lib.hid hW
  have HB := Lib.hid hblk
  clear hblk hW
  by_cases h1 : okSizes V P K0 = true
  rotate_left
  · have hbad : R = 1 := by
      rw [← HR.out, if_neg]
      unfold okMan
      simp [h1]
    have h1f : okSizes V P K0 = false := by simpa using h1
    rw [h1f] at HS
    clear h1 h1f
    refine wp_region_ext 35 (by kernel_rfl) (by kernel_rfl) ?_
    simp only [List.take_succ_cons, List.take_zero]
    iterate 35 ((with_reducible refine wpX_step (fun K hK => ?_)); go_simp; first | ((with_reducible refine hK _ ?_); clear hK K) | ((with_reducible refine ⟨_, fun X => HS.out X.v, hK _ ?_⟩); clear hK K))
    refine wpX_nil ?_
    intro X
    simp only [List.drop_succ_cons, List.drop_zero]
    have hX := below_then HW.out HW.out.size (w2 := X.v) (below_undrew X.below)
    subst hbad
    go_wp2
    go_ret
    exact ⟨rfl, hX⟩
  have hf := okSizes_facts h1
  rw [h1] at HS
  by_cases h2 : S < 1
  · have hbad : R = 1 := by
      rw [← HR.out, if_neg]
      unfold okMan
      rw [decide_eq_false (by omega)]
      simp
    clear h1 hf
    refine wp_region_ext 35 (by kernel_rfl) (by kernel_rfl) ?_
    simp only [List.take_succ_cons, List.take_zero]
    iterate 35 ((with_reducible refine wpX_step (fun K hK => ?_)); go_simp; first | ((with_reducible refine hK _ ?_); clear hK K) | ((with_reducible refine ⟨_, fun X => HS.out X.v, hK _ ?_⟩); clear hK K))
    refine wpX_nil ?_
    intro X
    simp only [List.drop_succ_cons, List.drop_zero]
    have hX := below_then HW.out HW.out.size (w2 := X.v) (below_undrew X.below)
    subst hbad
    go_wp2
    go_ret
    exact ⟨rfl, hX⟩
  by_cases h3 : 65536 < S
  · have hbad : R = 1 := by
      rw [← HR.out, if_neg]
      unfold okMan
      rw [decide_eq_false (by omega)]
      simp
    clear h1 hf
    refine wp_region_ext 35 (by kernel_rfl) (by kernel_rfl) ?_
    simp only [List.take_succ_cons, List.take_zero]
    iterate 35 ((with_reducible refine wpX_step (fun K hK => ?_)); go_simp; first | ((with_reducible refine hK _ ?_); clear hK K) | ((with_reducible refine ⟨_, fun X => HS.out X.v, hK _ ?_⟩); clear hK K))
    refine wpX_nil ?_
    intro X
    simp only [List.drop_succ_cons, List.drop_zero]
    have hX := below_then HW.out HW.out.size (w2 := X.v) (below_undrew X.below)
    subst hbad
    go_wp2
    go_ret
    exact ⟨rfl, hX⟩
  by_cases h4 : (64 : Int) < (l.length : Int)
  · have hbad : R = 1 := by
      rw [← HR.out, if_neg]
      unfold okMan
      rw [decide_eq_false (by omega)]
      simp
    clear h1 hf
    refine wp_region_ext 35 (by kernel_rfl) (by kernel_rfl) ?_
    simp only [List.take_succ_cons, List.take_zero]
    iterate 35 ((with_reducible refine wpX_step (fun K hK => ?_)); go_simp; first | ((with_reducible refine hK _ ?_); clear hK K) | ((with_reducible refine ⟨_, fun X => HS.out X.v, hK _ ?_⟩); clear hK K))
    refine wpX_nil ?_
    intro X
    simp only [List.drop_succ_cons, List.drop_zero]
    have hX := below_then HW.out HW.out.size (w2 := X.v) (below_undrew X.below)
    subst hbad
    go_wp2
    go_ret
    exact ⟨rfl, hX⟩
  have hN : ∀ w, Calls Try.prog 34 #[.int .i64 S, .int .i64 P] w (Ret (.int .i64 (cnt S P)) w) := fun w => by
    refine (image_count.calls S P _ w (count_eq S P (by omega) (by omega) (by omega) (by omega))).mono ?_
    rintro e w' ⟨rfl, hd⟩
    exact ⟨rfl, hd.below⟩
  have HN := Lib.hid hN
  clear hN
  by_cases h5 : (l.length : Int) = cnt S P
  rotate_left
  · have hbad : R = 1 := by
      rw [← HR.out, if_neg]
      unfold okMan
      rw [decide_eq_false (by omega)]
      simp
    have h5b : ((l.length : Int) == cnt S P) = false := by simpa using h5
    have h5c : ((l.length : Int) != cnt S P) = true := by simpa using h5
    clear h1 hf h5
    refine wp_region_ext 35 (by kernel_rfl) (by kernel_rfl) ?_
    simp only [List.take_succ_cons, List.take_zero]
    iterate 35 ((with_reducible refine wpX_step (fun K hK => ?_)); go_simp; first | ((with_reducible refine hK _ ?_); clear hK K) | ((with_reducible refine ⟨_, fun X => HS.out X.v, hK _ ?_⟩); clear hK K) | ((with_reducible refine ⟨_, fun X => HN.out X.v, hK _ ?_⟩); clear hK K))
    refine wpX_nil ?_
    intro X
    simp only [List.drop_succ_cons, List.drop_zero]
    have hX := below_then HW.out HW.out.size (w2 := X.v) (below_undrew X.below)
    subst hbad
    go_wp2
    go_ret
    exact ⟨rfl, hX⟩
  have hgood : R = if all32 l = true then 0 else 1 := by
    rw [← HR.out]
    unfold okMan
    rw [h1, decide_eq_true (by omega)]
    simp
  have HG := Lib.hid hgood
  rw [← h5] at HN
  have H5 := Lib.hid h5
  clear h1 hf h5 hgood HR
  refine wp_region_ext 35 (by kernel_rfl) (by kernel_rfl) ?_
  simp only [List.take_succ_cons, List.take_zero]
  iterate 35 ((with_reducible refine wpX_step (fun K hK => ?_)); go_simp; first | ((with_reducible refine hK _ ?_); clear hK K) | ((with_reducible refine ⟨_, fun X => HS.out X.v, hK _ ?_⟩); clear hK K) | ((with_reducible refine ⟨_, fun X => HN.out X.v, hK _ ?_⟩); clear hK K))
  refine wpX_nil ?_
  intro X
  simp only [List.drop_succ_cons, List.drop_zero]
  have hX := below_then HW.out HW.out.size (w2 := X.v) (below_undrew X.below)
  have hz := z4 X
  have hcX : StrsAt X.v a l := strs_below HC.out hX
  have HX := Lib.hid hX
  have HT := Lib.hid hcX
  clear hX hcX z0 z1 z2 z3 z4 HC HS HN H5 HB
  go_upto_region 3 with (fail)
  refine wp_gen (fun W' => W' = X.v) rfl ?_
  rintro W' rfl
  cases hv : all32 l with
  | true =>
    rw [hv] at HG
    have hR : R = 0 := HG.out
    clear HG
    subst hR
    go_wp2_with (go_at_call 44; refine (show Calls _ _ _ _ (fun e w' => e = .returned (.bool false) ∧ X.v = w') from (by have h := contains_any a c l _ HT.out hl; rw [hv] at h; exact h)).mono ?_; rintro e w1 ⟨rfl, rfl⟩)
    go_ret
    exact ⟨rfl, HX.out⟩
  | false =>
    rw [hv] at HG
    have hR : R = 1 := HG.out
    clear HG
    subst hR
    go_wp2_with (go_at_call 44; refine (show Calls _ _ _ _ (fun e w' => e = .returned (.bool true) ∧ X.v = w') from (by have h := contains_any a c l _ HT.out hl; rw [hv] at h; exact h)).mono ?_; rintro e w1 ⟨rfl, rfl⟩)
    go_ret
    exact ⟨rfl, HX.out⟩

end Go.Proofs.Ytnfcohpljgmaiaa
