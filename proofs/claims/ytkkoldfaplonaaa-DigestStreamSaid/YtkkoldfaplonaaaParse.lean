/- The contract of digest.Parse. -/
import Derived.Test.YtkkoldfaplonaaaHex
namespace Go.Proofs.Ytkkoldfaplonaaa
open Go.RowKit

def isHex (c : UInt8) : Bool := (48 ≤ c.toNat && c.toNat ≤ 57) || (97 ≤ c.toNat && c.toNat ≤ 102)
def hexVal (c : UInt8) : Nat := if 97 ≤ c.toNat then c.toNat - 87 else c.toNat - 48
/-- The bytes of digits, two a byte; a single one is the high half. -/
def nib : List UInt8 → List UInt8
  | [] => []
  | [a] => [UInt8.ofNat (hexVal a * 16)]
  | a :: b :: r => UInt8.ofNat (hexVal a * 16 + hexVal b) :: nib r
def parsed (l : List UInt8) : List UInt8 × Int := if l.length = 64 ∧ l.all isHex = true then (nib l, 0) else ([], 3)

theorem hexVal_lt {c : UInt8} (h : isHex c = true) : hexVal c < 16 := by
  unfold isHex at h
  unfold hexVal
  simp only [Bool.or_eq_true, Bool.and_eq_true, decide_eq_true_eq] at h
  split <;> omega
theorem length_nib : ∀ l : List UInt8, (nib l).length = (l.length + 1) / 2
  | [] => rfl
  | [a] => by simp [nib]
  | a :: b :: r => by
    rw [nib, List.length_cons, length_nib r]
    simp only [List.length_cons]
    omega
theorem nib_even (x : UInt8) : ∀ l : List UInt8, l.length % 2 = 0 → nib (l ++ [x]) = nib l ++ [UInt8.ofNat (hexVal x * 16)]
  | [], _ => rfl
  | [a], h => by simp at h
  | a :: b :: r, h => by
    have h' : r.length % 2 = 0 := by
      simp only [List.length_cons] at h
      omega
    show _ :: nib (r ++ [x]) = _ :: nib r ++ _
    rw [nib_even x r h']
    rfl
theorem nib_odd (x : UInt8) : ∀ l : List UInt8, l.length % 2 = 1 → (l.all isHex = true) → isHex x = true → nib (l ++ [x]) = (nib l).set (l.length / 2) ((at8 (nib l) (l.length / 2)) ||| UInt8.ofNat (hexVal x))
  | [], h, _, _ => by simp at h
  | [a], _, ha, hx => by
    have h1 : isHex a = true := by simpa using ha
    have e1 := hexVal_lt h1
    have e2 := hexVal_lt hx
    simp only [List.cons_append, List.nil_append, nib, List.length_cons, List.length_nil, at8]
    show [UInt8.ofNat (hexVal a * 16 + hexVal x)] = [UInt8.ofNat (hexVal a * 16) ||| UInt8.ofNat (hexVal x)]
    have h : ∀ p, p < 16 → ∀ q, q < 16 → UInt8.ofNat (p * 16 + q) = UInt8.ofNat (p * 16) ||| UInt8.ofNat q := by decide +kernel
    rw [h _ e1 _ e2]
  | a :: b :: r, h, ha, hx => by
    have h' : r.length % 2 = 1 := by
      simp only [List.length_cons] at h
      omega
    have ha' : r.all isHex = true := by
      simp only [List.all_cons, Bool.and_eq_true] at ha
      exact ha.2.2
    have e : (a :: b :: r).length / 2 = r.length / 2 + 1 := by
      simp only [List.length_cons]
      omega
    show _ :: nib (r ++ [x]) = _
    rw [nib_odd x r h' ha' hx, e]
    rfl
theorem take_snoc8 (l : List UInt8) (i : Nat) (h : i < l.length) : l.take (i + 1) = l.take i ++ [at8 l i] := by
  rw [List.take_add_one]
  simp [at8, List.getD_eq_getElem?_getD, List.getElem?_eq_getElem h]

/-- A store into such a slice. -/
theorem Seg.set {w : World} {base : Nat} {e : TypeId} {g off n cap : Nat} {xs : List Value} (h : Seg w base e (.slice (some ⟨g, off, none⟩) n cap) xs) (j : Nat) (hj : j < xs.length) (u : Value) :
    Seg (w.setCell ⟨g, off + j, none⟩ u) base e (.slice (some ⟨g, off, none⟩) n cap) (xs.set j u) := by
  rcases h with ⟨h, _⟩ | ⟨g', off', cap', cur, hv, hb, hg, hc, hs, hm, hx⟩
  · cases h
  · injection hv with h1 h2 h3
    injection h1 with h1
    injection h1 with h1 h4
    subst h1 h2 h3 h4
    refine .inr ⟨g, off, cap, _, by rw [List.length_set], hb, heap_set hg _ _, by rw [List.length_set]; exact hc, by simp; omega, hm, fun k hk => ?_⟩
    rw [List.length_set] at hk
    by_cases e : k = j
    · subst e
      rw [Array.getElem?_setIfInBounds_self_of_lt (by omega), List.getElem?_set_self hk]
    · rw [Array.getElem?_setIfInBounds_ne (by omega), List.getElem?_set_ne (by omega)]
      exact hx k hk
theorem n8s_put (l : List UInt8) (j : Nat) (x : UInt8) : (n8s l).set j (.int .u8 (n8 x)) = n8s (l.set j x) := by
  simp [n8s, List.map_set]
theorem at8_cell (l : List UInt8) (j : Nat) (hj : j < l.length) : (n8s l)[j]? = some (.int .u8 (n8 (at8 l j))) := by
  simp [n8s, at8, List.getD_eq_getElem?_getD, List.getElem?_eq_getElem hj]

theorem digit_hex (c : UInt8) (h : isHex c = true) (w : World) : Calls Try.prog 34 #[.int .u8 (n8 c)] w (Ret (.int .i64 (hexVal c : Int)) w) := by
  have hc : 48 ≤ c.toNat := by
    unfold isHex at h
    simp at h
    omega
  have e : (if 97 ≤ n8 c then n8 c - 87 else n8 c - 48) = (hexVal c : Int) := by
    unfold hexVal n8
    split <;> split <;> omega
  refine (digit_any (n8 c) w (by unfold n8; omega) (n8_lt c)).mono ?_
  rintro e' w' ⟨rfl, rfl⟩
  exact ⟨by rw [e], Below.refl _ _⟩
theorem digit_hexQ (c : UInt8) (h : isHex c = true) (w : World) : Calls Try.prog 34 #[.int .u8 (n8 c)] w fun e w' => e = .returned (.int .i64 (hexVal c : Int)) ∧ w = w' := by
  have hc : 48 ≤ c.toNat := by
    unfold isHex at h
    simp at h
    omega
  have e : (if 97 ≤ n8 c then n8 c - 87 else n8 c - 48) = (hexVal c : Int) := by
    unfold hexVal n8
    split <;> split <;> omega
  refine (digit_any (n8 c) w (by unfold n8; omega) (n8_lt c)).mono ?_
  rintro e' w' ⟨rfl, rfl⟩
  exact ⟨by rw [e], rfl⟩
theorem or8 (a b : UInt8) : bits .or .u8 (n8 a) (n8 b) = n8 (a ||| b) := by
  have h : ∀ a b : Fin 256, bits .or .u8 ((a.val : Nat) : Int) ((b.val : Nat) : Int) = ((a.val ||| b.val : Nat) : Int) := by decide +kernel
  have h1 := h ⟨a.toNat, a.toNat_lt⟩ ⟨b.toNat, b.toNat_lt⟩
  unfold n8
  rw [UInt8.toNat_or]
  exact h1

structure PR (w : World) (l : List UInt8) (i : Nat) (o : Value) (wr : World) : Prop where
  seg : Seg wr w.heap.size 5 o (n8s (nib (l.take i)))
  bel : Below w.heap.size w wr
  hex : (l.take i).all isHex = true

set_option maxRecDepth 100000 in
set_option maxHeartbeats 4000000 in
theorem parse_full (d : ByteArray) (w : World) (h : d.size = 64) :
    Calls Try.prog 24 #[.string d] w (Ret (.tuple #[.string (S8 (parsed d.data.toList).1), .int .i64 (parsed d.data.toList).2]) w) := by
  have hI : (d.size : Int) = 64 := by omega
  have i0 : (Try.prog.info? 5).map (fun i => (i.zero, i.size, i.bytes)) = some (some (.int .u8 0), 1, 1) := by kernel_rfl
  obtain ⟨i5, hi5, hz5, hs5, hb5⟩ := info_parts i0
  have hmk : ∀ w, (Instr.makeSlice 50 (.int .i64 0) (.int .i64 32)).run Try.prog w = .ok (.slice (some ⟨w.heap.size, 0, none⟩) 0 32) (w.alloc (.cells (List.replicate 32 (Value.int .u8 0)).toArray 5)) := fun _ => by kernel_rfl
  generalize hp : parsed d.data.toList = pr
  have Hp := Lib.hid hp
  clear hp i0
  go_enter Try.func24, Try.ntmps24
  go_upto_region 4 with (fail)
  clear hmk
  refine wp_gen (fun W => PR w d.data.toList 0 (.slice (some ⟨w.heap.size, 0, none⟩) 0 32) W) ?_ ?_
  · exact ⟨.inr ⟨w.heap.size, 0, 32, _, rfl, Nat.le_refl _, heap_new w _, (show (0 : Nat) ≤ 32 by decide), by simp, by decide, fun j hj => by cases hj⟩, (Below.refl _ _).alloc (Nat.le_refl _) _, rfl⟩
  rintro W ho
  go_wp2
  go_loopw [4, 13] (fun o k wr => ∃ i : Nat, i ≤ 64 ∧ k = .int .i64 i ∧ PR w d.data.toList i o wr) (fun _ k _ => 64 - (intOf k).toNat)
  case atStart => exact ⟨0, by omega, rfl, ho⟩
  case round =>
    obtain ⟨i, hi, rfl, hpr⟩ := hrel
    have hdl : d.data.toList.length = 64 := by rw [← h]; simp
    obtain ⟨l, hl⟩ : ∃ l, l = d.data.toList := ⟨_, rfl⟩
    have hget : ∀ k (h : k < d.size), ((d[k]'h).toNat : Int) = n8 (at8 l k) := by
      intro k h
      have h' : k < d.data.size := h
      have e : d[k] = d.data[k] := rfl
      rw [e, hl]
      unfold n8 at8
      rw [List.getD_eq_getElem?_getD, Array.getElem?_toList, Array.getElem?_eq_getElem h', Option.getD_some]
    rw [← hl] at hpr hdl
    have Hl := Lib.hid hl
    have Hpr := Lib.hid hpr
    clear hl hpr
    by_cases hli : i < 64
    · have hlI : (i : Int) < 64 := by omega
      have hid : i < d.size := by omega
      have hc1 := hget i hid
      have hidI : (i : Int) < (d.size : Int) := by omega
      clear hget
      obtain ⟨x, hx⟩ : ∃ x, x = at8 l i := ⟨_, rfl⟩
      rw [← hx] at hc1
      have hts := take_snoc8 l i (by omega)
      rw [← hx] at hts
      have Hts := Lib.hid hts
      have Hx := Lib.hid hx
      clear hx hts
      by_cases hh : isHex x = true
      · have hcase : (48 ≤ n8 x ∧ n8 x ≤ 57) ∨ (97 ≤ n8 x ∧ n8 x ≤ 102) := by
          unfold isHex at hh
          unfold n8
          simp at hh
          omega
        have HD := Lib.hid (digit_hex x hh)
        have hv16 := hexVal_lt hh
        have hall : (l.take (i + 1)).all isHex = true := by
          rw [Hts.out, List.all_append, Hpr.out.hex]
          simp [hh]
        have Hall := Lib.hid hall
        have Hh := Lib.hid hh
        clear hall hh
        have HQ := Lib.hid (digit_hexQ x Hh.out)
        obtain ⟨hv, hhv⟩ : ∃ hv, hv = hexVal x := ⟨_, rfl⟩
        rw [← hhv] at HD HQ hv16
        have Hhv := Lib.hid hhv
        clear hhv
        have hv16I : (hv : Int) < 16 := by omega
        have htl : (l.take i).length = i := by rw [List.length_take, hdl, Nat.min_eq_left hi]
        have hnl : (nib (l.take i)).length = (i + 1) / 2 := by rw [length_nib, htl]
        have Hnl := Lib.hid hnl
        have Htl := Lib.hid htl
        clear hnl htl
        by_cases hp2 : i % 2 = 0
        · have hpI : (i : Int) % 2 = 0 := by omega
          have hnib : nib (l.take (i + 1)) = nib (l.take i) ++ [UInt8.ofNat (hv * 16)] := by
            rw [Hts.out, nib_even x _ (by rw [Htl.out]; exact hp2), Hhv.out]
          obtain ⟨y, hy⟩ : ∃ y, y = UInt8.ofNat (hv * 16) := ⟨_, rfl⟩
          rw [← hy] at hnib
          have g16 : (hv : Int) * 16 = n8 y := by
            rw [hy]
            unfold n8
            rw [UInt8.toNat_ofNat']
            omega
          have Hnib := Lib.hid hnib
          clear hp2 hnib hy
          have hbA := ((Below.refl wr.heap.size wr).alloc (Nat.le_refl _) (.cells #[.int .u8 (n8 y)] 5))
          have hbs := Hpr.out.bel.size
          obtain ⟨v4, w4, hr4, hg4, hk4, -⟩ := run_append_seg (P := Try.prog) (wr.alloc (.cells #[.int .u8 (n8 y)] 5)) w.heap.size 50 50 50 5 i5 (.int .u8 0) Try.underlying50 hi5 hz5 hs5 rfl u4 _ (Hpr.out.seg.below hbA) (.slice (some ⟨wr.heap.size, 0, none⟩) 1 1) 1 (n8s [y])
            (Src.ofSlice _ Try.underlying50 ⟨wr.heap.size, 0, none⟩ 1 1 (n8s [y]) rfl (news_of (heap_new wr _)) (by simp [n8s, Value.oneCell'])) (by rw [n8s_length, Hnl.out]; simp [maxLen]; omega) (by rw [n8s_length, Hnl.out, hb5]; omega) (by simp; omega)
          have hk5 : Below w.heap.size w w4 := (Hpr.out.bel.trans (hbA.mono hbs)).trans (hk4.below (by simp; omega) (fun k hk => (Hpr.out.seg.lt k hk.symm).1))
          rw [n8s_append, ← Hnib.out] at hg4
          have Hr4 := Lib.hid hr4
          have Hpr4 := Lib.hid (PR.mk hg4 hk5 Hall.out)
          clear hr4 hg4 hk4 hk5 hbA hbs
          rcases hcase with ⟨q0, q1⟩ | ⟨q0, q1⟩
          all_goals
            go_upto_if 35 with (fail)
            go_wp2_with (first | (go_at_call 34; (with_reducible refine (HQ.out _).mono ?_); rintro e w1 ⟨rfl, rfl⟩) | (at_builtin; refine Lib.wpList_append_run _ rfl (.tmp 36) (.tmp 41) 50 50 rfl _ _ rfl rfl _ _ Hr4.out ?_))
            refine ⟨⟨i + 1, by omega, by go_num, by rw [← Hl.out]; exact Hpr4.out⟩, ?_⟩
            simp [intOf]
            omega
        · have hpI : (i : Int) % 2 = 1 := by omega
          have hnib : nib (l.take (i + 1)) = (nib (l.take i)).set (i / 2) (at8 (nib (l.take i)) (i / 2) ||| UInt8.ofNat hv) := by
            rw [Hts.out, nib_odd x _ (by rw [Htl.out]; omega) Hpr.out.hex Hh.out, Htl.out, Hhv.out]
          obtain ⟨z, hz⟩ : ∃ z, z = UInt8.ofNat hv := ⟨_, rfl⟩
          rw [← hz] at hnib
          obtain ⟨old, hold⟩ : ∃ old, old = at8 (nib (l.take i)) (i / 2) := ⟨_, rfl⟩
          have gz : (hv : Int) = n8 z := by
            rw [hz]
            unfold n8
            rw [UInt8.toNat_ofNat']
            omega
          have gor : bits .or .u8 (n8 old) (hv : Int) = n8 (old ||| z) := by rw [gz, or8]
          have hcell := at8_cell (nib (l.take i)) (i / 2) (by rw [Hnl.out]; omega)
          rw [← hold] at hcell hnib
          obtain ⟨a, cap, he, hcap, hcm, hx⟩ := Hpr.out.seg.form
          obtain ⟨g, off, rfl, hc0⟩ := hx _ _ hcell
          have hseg := Hpr.out.seg
          rw [he] at hseg
          have hlen : (n8s (nib (l.take i))).length = (i + 1) / 2 := by rw [n8s_length, Hnl.out]
          rw [hlen] at he hseg
          subst he
          have hgl := (hseg.lt g rfl)
          have Hgl := Lib.hid hgl
          have hfr : wr.frozen? ⟨g, off + i / 2, none⟩ = false := by
            rcases hseg with ⟨h, _⟩ | ⟨g', off', cap', cur, hv', _, hg', _⟩
            · cases h
            · injection hv' with h1
              injection h1 with h1
              injection h1 with h1 h4
              subst h1
              exact frozen_of hg' _
          have c0 : ∀ x : Ext wr.drew, x.v.cell? ⟨g, off + i / 2, none⟩ = some (.int .u8 (n8 old)) := fun x => (x.cell _ _ hgl.2).trans hc0
          have e0 : IntKind.i64.wrap ((i : Int) / 2) = (i : Int) / 2 := IntWalk.i64_in _ (by omega)
          have e1 : 0 ≤ (i : Int) / 2 := by omega
          have e2 : (i : Int) / 2 < ((i : Int) + 1) / 2 := by omega
          have e3 : ((i : Int) / 2).toNat = i / 2 := by omega
          have e7 : (i : Int).tdiv 2 = (i : Int) / 2 := Int.tdiv_eq_ediv_of_nonneg (by omega)
          have e8 : IntKind.u8.wrap (hv : Int) = (hv : Int) := by simp [IntKind.wrap, IntKind.bits, IntKind.signed]; omega
          have hset5 : ∀ V : World, Below wr.heap.size wr V → PR w l (i + 1) (.slice (some ⟨g, off, none⟩) ((i + 1) / 2) cap) (V.setCell ⟨g, off + i / 2, none⟩ (.int .u8 (n8 (old ||| z)))) := by
            intro V hV
            have h1 := (hseg.below hV).set (i / 2) (by rw [n8s_length, Hnl.out]; omega) (.int .u8 (n8 (old ||| z)))
            rw [n8s_put, ← hnib] at h1
            exact ⟨h1, (below_then Hpr.out.bel Hpr.out.bel.size hV).setCell (p := ⟨g, off + i / 2, none⟩) hgl.1 _, Hall.out⟩
          have Hset5 := Lib.hid hset5
          have Hc0 := Lib.hid hc0
          have Hfr := Lib.hid hfr
          have Hold := Lib.hid hold
          have Hgz := Lib.hid gz
          clear hp2 hnib hz hold gz hcell hcap hcm hx hseg hset5 hlen hgl hfr hc0
          rcases hcase with ⟨q0, q1⟩ | ⟨q0, q1⟩
          all_goals
            go_upto_if 35 with (fail)
            go_wp2
            refine wp_region_ext 10 (by kernel_rfl) (by kernel_rfl) ?_
            iterate 6 (refine wpX_step (fun K hK => ?_); go_simp; refine hK _ ?_; clear hK K)
            refine wpX_step (fun K hK => ?_)
            go_simp
            refine ⟨_, fun x => HD.out x.v, hK _ ?_⟩
            clear hK K
            iterate 3 (refine wpX_step (fun K hK => ?_); go_simp; refine hK _ ?_; clear hK K)
            refine wpX_nil ?_
            intro X
            have hX : Below wr.heap.size wr X.v := below_undrew X.below
            have hc1' : X.v.cell? ⟨g, off + i / 2, none⟩ = some (.int .u8 (n8 old)) := c0 X
            have hf1' : X.v.frozen? ⟨g, off + i / 2, none⟩ = false := (X.frozen _ _ Hgl.out.2).trans Hfr.out
            have hpr5 : PR w l (i + 1) (.slice (some ⟨g, off, none⟩) ((i + 1) / 2) cap) (X.v.setCell ⟨g, off + i / 2, none⟩ (.int .u8 (n8 (old ||| z)))) := Hset5.out X.v hX
            have Hpr5 := Lib.hid hpr5
            clear c0 hX hpr5
            generalize X.v = V at hc1' hf1' Hpr5 ⊢
            go_wp2
            refine ⟨⟨i + 1, by omega, by go_num, by rw [← Hl.out]; exact Hpr5.out⟩, ?_⟩
            simp [intOf]
            omega
      · have hcase : n8 x < 48 ∨ (57 < n8 x ∧ n8 x < 97) ∨ 102 < n8 x := by
          unfold isHex at hh
          simp only [Bool.or_eq_true, Bool.and_eq_true, decide_eq_true_eq] at hh
          unfold n8
          omega
        have hpr0 : pr = ([], 3) := by
          rw [← Hp.out, ← Hl.out, parsed, if_neg]
          rintro ⟨-, hall⟩
          rw [List.all_eq_true] at hall
          refine hh (hall x ?_)
          rw [Hx.out, at8, List.getD_eq_getElem?_getD, List.getElem?_eq_getElem (by omega)]
          exact List.getElem_mem _
        have Hpr0 := Lib.hid hpr0
        have hbel := Lib.hid Hpr.out.bel
        clear hh hpr0
        rcases hcase with q0 | ⟨q0, q1⟩ | q0
        · have q1 : ¬ 57 < n8 x := by omega
          have q2 : n8 x < 97 := by omega
          have q3 : ¬ 102 < n8 x := by omega
          go_wp2
          go_ret2
          exact ⟨by rw [Hpr0.out]; rfl, hbel.out⟩
        · have q1' : ¬ n8 x < 48 := by omega
          have q3 : ¬ 102 < n8 x := by omega
          go_wp2
          go_ret2
          exact ⟨by rw [Hpr0.out]; rfl, hbel.out⟩
        · have q1' : ¬ n8 x < 48 := by omega
          have q2 : 57 < n8 x := by omega
          have q3 : ¬ n8 x < 97 := by omega
          go_wp2
          go_ret2
          exact ⟨by rw [Hpr0.out]; rfl, hbel.out⟩
    · have hlI : ¬ (i : Int) < 64 := by omega
      have hall : l.take i = l := List.take_of_length_le (by omega)
      have hpr0 : pr = (nib l, 0) := by
        rw [← Hp.out, ← Hl.out, parsed, if_pos]
        refine ⟨hdl, ?_⟩
        have := Hpr.out.hex
        rw [hall] at this
        exact this
      have hsg := Hpr.out.seg
      rw [hall] at hsg
      have hcv := run_convert_seg hsg
      have Hbl := Lib.hid Hpr.out.bel
      have Hpr0 := Lib.hid hpr0
      clear hget hsg hall hpr0 Hpr
      go_wp2
      go_ret2
      exact ⟨by rw [Hpr0.out]; rfl, Hbl.out⟩

theorem parse_any (d : ByteArray) (w : World) :
    Calls Try.prog 24 #[.string d] w (Ret (.tuple #[.string (S8 (parsed d.data.toList).1), .int .i64 (parsed d.data.toList).2]) w) := by
  by_cases h : d.size = 64
  · exact parse_full d w h
  · have e : parsed d.data.toList = ([], 3) := by
      rw [parsed, if_neg]
      rintro ⟨h1, -⟩
      exact h (by simpa using h1)
    rw [e]
    exact parse_bad d w h

end Go.Proofs.Ytkkoldfaplonaaa
