/- image.Decode -/
import Derived.Test.YtnfcohpljgmaiaaImgD
namespace Go.Proofs.Ytnfcohpljgmaiaa
open Go.RowKit Go.Shelf Go.Proofs.YtnfcohpljgmaiaaW.PrintLast Go.Proofs.YtnfcohpljgmaiaaW.PrintWords Go.Proofs.Ytnfcohpljgmaiaa.B
attribute [local go_sem] Oper.semAt_some

def pgs (d : ByteArray) (l : List Nat) : List ByteArray := l.map fun i => pg d 32 i
def dbad (d : ByteArray) : Prop := (d.size : Int) < 9 ∨ ((d.size : Int) - 9) % 32 ≠ 0 ∨ (d.size : Int) > 2057
instance (d : ByteArray) : Decidable (dbad d) := by unfold dbad; infer_instance
/-- The digests behind a manifest's head. -/
def dpages (d : ByteArray) : List ByteArray := pgs (d.extract 9 d.size) (List.range ((d.size - 9) / 32))
def fDecode (d : ByteArray) : Option (Int × Int × Int × Int × List ByteArray × Int) :=
  if (d.size : Int) > 1000000000 then none
  else if dbad d then some (0, 0, 0, 0, [], 10)
  else (image_value.f 20 (d.extract 0 2)).bind fun V => (image_value.f 20 (d.extract 2 6)).bind fun S => (image_value.f 20 (d.extract 6 8)).bind fun P => (image_value.f 20 (d.extract 8 9)).bind fun K =>
    if okMan V S P K (dpages d) = true then some (V, S, P, K, dpages d, 0) else some (0, 0, 0, 0, [], 10)

theorem dec_results (tmps : Array Value) {W : World} {B : Nat} {c0 c1 c2 c3 c4 e : Value} {fz : Nat × Nat} (hb : tmps[2]?.getD undef = .pointer (some ⟨B, 0, none⟩)) (he : tmps[3]?.getD undef = e) (h : W.heap[B]? = some (.cells #[c0, c1, c2, c3, c4] 25 fz)) :
    (results Try.f30 tmps).run Try.prog W = .ok (.tuple #[.agg #[c0, c1, c2, c3, c4], e]) W := by
  have z0 : W.cell? ⟨B, 0, none⟩ = some c0 := by rw [cell_of h]; rfl
  have z1 : W.cell? ⟨B, 1, none⟩ = some c1 := by rw [cell_of h]; rfl
  have z2 : W.cell? ⟨B, 2, none⟩ = some c2 := by rw [cell_of h]; rfl
  have z3 : W.cell? ⟨B, 3, none⟩ = some c3 := by rw [cell_of h]; rfl
  have z4 : W.cell? ⟨B, 4, none⟩ = some c4 := by rw [cell_of h]; rfl
  simp [results, Try.f30, go_sem, hb, he, z0, z1, z2, z3, z4]
theorem leave_dec {tmps : Array Value} {W : World} {B n : Nat} {c0 c1 c2 c3 c4 e : Value} {fz : Nat × Nat} {R : Ending → World → Prop} (hb : tmps[2]?.getD undef = .pointer (some ⟨B, 0, none⟩)) (he : tmps[3]?.getD undef = e) (h : W.heap[B]? = some (.cells #[c0, c1, c2, c3, c4] 25 fz))
    (hR : R (.returned (.tuple #[.agg #[c0, c1, c2, c3, c4], e])) W) : bodyPostM Fence.wide n Try.prog Try.f30 R .ret { tmps := tmps, defers := [] } W :=
  ⟨_, dec_results tmps hb he h, hR⟩
theorem leave_dec_d {tmps : Array Value} {W : World} {B D n : Nat} {c0 c1 c2 c3 c4 e : Value} {fz : Nat × Nat} {R : Ending → World → Prop} (hb : tmps[2]?.getD undef = .pointer (some ⟨B, 0, none⟩)) (he : tmps[3]?.getD undef = e) (h : W.heap[B]? = some (.cells #[c0, c1, c2, c3, c4] 25 fz)) (hne : D ≠ B)
    (hK : W.heap[D]? = some (.deferred (some []))) (hR : R (.returned (.tuple #[.agg #[c0, c1, c2, c3, c4], e])) (W.putObj D (.deferred none))) : bodyPostM Fence.wide n Try.prog Try.f30 R .ret { tmps := tmps, defers := [{ target := .collected D, args := #[] }] } W :=
  ⟨by simp, .inl ⟨_, _, rfl, run_takeDeferred hK, ⟨_, dec_results tmps hb he ((World.putObj_heap_other (fun e => hne e.symm)).trans h), hR⟩⟩⟩

/-- Between two rounds of Decode's loop. -/
def DecI (V S P K : Int) (d : ByteArray) (n0 b2 b4 bd bs : Nat) (w : World) (pre : List (PgNo d 32)) (W : World) : Prop :=
  (∃ vv, W.heap[b4]? = some (.cells #[.int .i64 V, .int .i64 S, .int .i64 P, .int .i64 K, vv] 25 (0, 0)) ∧ Kd.R Kd.string 9 W n0 (fun j => bs < j) vv (pgs d (pre.map Subtype.val))) ∧
  W.heap[b2]? = some (.cells #[.int .i64 0, .int .i64 0, .int .i64 0, .int .i64 0, .slice none 0 0] 25 (0, 0)) ∧
  W.heap[bd]? = some (.cells #[.string d] 9 (0, 0)) ∧ W.heap[bs]? = some (.cells #[.int .i64 32] 3 (0, 0)) ∧ Below n0 w W

set_option maxRecDepth 100000 in
set_option maxHeartbeats 1000000 in
theorem decode_any (d : ByteArray) (r1 r2 r3 r4 : Int) (r5 : List ByteArray) (r6 : Int) (w : World) (h : fDecode d = some (r1, r2, r3, r4, r5, r6)) :
    Calls Try.prog 30 #[.string d] w fun e w' => ∃ v4_ : Value, e = .returned (.tuple #[.agg #[.int .i64 r1, .int .i64 r2, .int .i64 r3, .int .i64 r4, v4_], .int .i64 r6]) ∧ Kd.R Kd.string 9 w' w.heap.size (fun _ => True) v4_ r5 ∧ Below w.heap.size w w' := by
  have hm := heap_new w (.cells #[.int .i64 0, .int .i64 0, .int .i64 0, .int .i64 0, .slice none 0 0] 25)
  have hbl := (Below.refl w.heap.size w).alloc (Nat.le_refl _) (.cells #[.int .i64 0, .int .i64 0, .int .i64 0, .int .i64 0, .slice none 0 0] 25)
  have HM := Lib.hid hm
  have HBL := Lib.hid hbl
  clear hm hbl
  refine (callsIn_wide (n := 6)).1 ?_
  refine callsIn_of_wp_marks Try.func30 rfl trivial ?_ rfl
  simp only [Try.ntmps30, List.size_toArray, List.length_cons, List.length_nil, Nat.reduceAdd, Nat.reduceSub, Array.replicate_succ, Array.replicate_zero, List.push_toArray, List.append_toArray, List.nil_append, List.cons_append]
  unfold fDecode at h
  by_cases hlim : (d.size : Int) > 1000000000
  · rw [if_pos hlim] at h
    cases h
  rw [if_neg hlim] at h
  by_cases hA : (d.size : Int) < 9
  · rw [if_pos (show dbad d from Or.inl hA)] at h
    cases h
    gi_wp2
    have hm := HM.out
    have hbl := HBL.out
    exact leave_dec rfl rfl hm ⟨_, rfl, Kd.R_nil _ _ _ _ _, hbl⟩
  have hw9 : wrap64 ((d.size : Int) - 9) = (d.size : Int) - 9 := by unfold wrap64; omega
  have ht9 : Int.tmod ((d.size : Int) - 9) 32 = ((d.size : Int) - 9) % 32 := Int.tmod_eq_emod_of_nonneg (by omega)
  by_cases hB : ((d.size : Int) - 9) % 32 ≠ 0
  · have hBb : (((d.size : Int) - 9) % 32 != 0) = true := by simpa using hB
    rw [if_pos (show dbad d from Or.inr (Or.inl hB))] at h
    cases h
    gi_wp2
    have hm := HM.out
    have hbl := HBL.out
    exact leave_dec rfl rfl hm ⟨_, rfl, Kd.R_nil _ _ _ _ _, hbl⟩
  have hBb : (((d.size : Int) - 9) % 32 != 0) = false := by simpa using hB
  by_cases hC : (d.size : Int) > 2057
  · rw [if_pos (show dbad d from Or.inr (Or.inr hC))] at h
    cases h
    gi_wp2
    have hm := HM.out
    have hbl := HBL.out
    exact leave_dec rfl rfl hm ⟨_, rfl, Kd.R_nil _ _ _ _ _, hbl⟩
  rw [if_neg (by unfold dbad; omega)] at h
  obtain ⟨V, hV, h⟩ := Option.bind_eq_some_iff.mp h
  obtain ⟨S, hS, h⟩ := Option.bind_eq_some_iff.mp h
  obtain ⟨P, hP, h⟩ := Option.bind_eq_some_iff.mp h
  obtain ⟨K, hK, h⟩ := Option.bind_eq_some_iff.mp h
  have cV : ∀ w, Calls Try.prog 49 #[.string (d.extract 0 2)] w (Ret (.int .i64 V) w) := fun w => (image_value.calls 20 _ V w hV).mono fun e w' hh => ⟨hh.1, hh.2.below⟩
  have cS : ∀ w, Calls Try.prog 49 #[.string (d.extract 2 6)] w (Ret (.int .i64 S) w) := fun w => (image_value.calls 20 _ S w hS).mono fun e w' hh => ⟨hh.1, hh.2.below⟩
  have cP : ∀ w, Calls Try.prog 49 #[.string (d.extract 6 8)] w (Ret (.int .i64 P) w) := fun w => (image_value.calls 20 _ P w hP).mono fun e w' hh => ⟨hh.1, hh.2.below⟩
  have cK : ∀ w, Calls Try.prog 49 #[.string (d.extract 8 9)] w (Ret (.int .i64 K) w) := fun w => (image_value.calls 20 _ K w hK).mono fun e w' hh => ⟨hh.1, hh.2.below⟩
  have HcV := Lib.hid cV
  have HcS := Lib.hid cS
  have HcP := Lib.hid cP
  have HcK := Lib.hid cK
  have HH := Lib.hid h
  clear cV cS cP cK hV hS hP hK h
  have u2 : (2 : Int) ≤ d.size := by omega
  have u6 : (6 : Int) ≤ d.size := by omega
  have u8 : (8 : Int) ≤ d.size := by omega
  have u9 : (9 : Int) ≤ d.size := by omega
  have u9n : 9 ≤ d.size := by omega
  gi_wp2
  generalize hW0 : w.alloc (.cells #[.int .i64 0, .int .i64 0, .int .i64 0, .int .i64 0, .slice none 0 0] 25) = W0 at HM HBL ⊢
  refine wpIn_wide.2 ?_
  refine wp_region_alloc 13 4 25 #[.int .i64 0, .int .i64 0, .int .i64 0, .int .i64 0, .slice none 0 0] (by kernel_rfl) (by kernel_rfl) rfl rfl rfl (by kernel_rfl) (by simp) (fun a w => by go_simp) ?_
  simp only [List.take_succ_cons, List.take_zero]
  iterate 13 ((with_reducible refine wpX_step (fun K hK => ?_)); go_simp; first | ((with_reducible refine hK _ ?_); clear hK K) | ((with_reducible refine ⟨_, fun X => HcV.out X.v, hK _ ?_⟩); clear hK K) | ((with_reducible refine ⟨_, fun X => HcS.out X.v, hK _ ?_⟩); clear hK K) | ((with_reducible refine ⟨_, fun X => HcP.out X.v, hK _ ?_⟩); clear hK K) | ((with_reducible refine ⟨_, fun X => HcK.out X.v, hK _ ?_⟩); clear hK K))
  refine wpX_step (fun K hK => ?_)
  go_simp
  intro xv
  refine hK _ ?_
  clear hK K
  refine wpX_nil ?_
  intro X b4 hbb hbz hbe
  have he : xv = .pointer (some ⟨b4, 0, none⟩) := hbe
  subst he
  clear hbe
  simp only [List.drop_succ_cons, List.drop_zero]
  have hm1 := (X.heap _ (lt_of_block HM.out)).trans HM.out
  have hB1 := below_then HBL.out HBL.out.size (w2 := X.v) (below_undrew X.below)
  have hsz0 : w.heap.size < b4 := by
    rw [← hW0, World.size_alloc] at hbb
    omega
  generalize X.v = U at hbz hm1 hB1 ⊢
  clear HM HBL hW0 hbb
  have hm5 := man_store hbz (.int .i64 V) (.int .i64 S) (.int .i64 P) (.int .i64 K) (.slice none 0 0)
  have hm2 := heap_set_other (heap_set_other (heap_set_other (heap_set_other (heap_set_other hm1 (a := ⟨b4, 0, none⟩) (by show w.heap.size ≠ b4; omega) (.int .i64 V)) (a := ⟨b4, 1, none⟩) (by show w.heap.size ≠ b4; omega) (.int .i64 S)) (a := ⟨b4, 2, none⟩) (by show w.heap.size ≠ b4; omega) (.int .i64 P)) (a := ⟨b4, 3, none⟩) (by show w.heap.size ≠ b4; omega) (.int .i64 K)) (a := ⟨b4, 4, none⟩) (by show w.heap.size ≠ b4; omega) (.slice none 0 0)
  have hB2 := man_below hB1 (show w.heap.size ≤ b4 by omega) (.int .i64 V) (.int .i64 S) (.int .i64 P) (.int .i64 K) (.slice none 0 0)
  have z0 : U.cell? ⟨b4, 0, none⟩ = some (.int .i64 0) := (blk_cell hbz 0).trans rfl
  have z1 : U.cell? ⟨b4, 1, none⟩ = some (.int .i64 0) := (blk_cell hbz 1).trans rfl
  have z2 : U.cell? ⟨b4, 2, none⟩ = some (.int .i64 0) := (blk_cell hbz 2).trans rfl
  have z3 : U.cell? ⟨b4, 3, none⟩ = some (.int .i64 0) := (blk_cell hbz 3).trans rfl
  have z4 : U.cell? ⟨b4, 4, none⟩ = some (.slice none 0 0) := (blk_cell hbz 4).trans rfl
  have y0 := blk_frozen hbz 0
  have y1 := blk_frozen hbz 1
  have y2 := blk_frozen hbz 2
  have y3 := blk_frozen hbz 3
  have y4 := blk_frozen hbz 4
  have H5 := Lib.hid hm5
  have H2 := Lib.hid hm2
  have HB2 := Lib.hid hB2
  clear hm5 hm2 hB2 hm1 hB1 hbz
  go_wp2
  refine wpIn_gen (fun W => W.heap[b4]? = some (.cells #[.int .i64 V, .int .i64 S, .int .i64 P, .int .i64 K, .slice none 0 0] 25 (0, 0)) ∧ W.heap[w.heap.size]? = some (.cells #[.int .i64 0, .int .i64 0, .int .i64 0, .int .i64 0, .slice none 0 0] 25 (0, 0)) ∧ Below w.heap.size w W) ⟨H5.out, H2.out, HB2.out⟩ ?_
  clear z0 z1 z2 z3 z4 y0 y1 y2 y3 y4 H5 H2 HB2
  rintro W1 ⟨k4, k2, kB⟩
  have kl := blk_lt k4
  have KB := Lib.hid kB
  clear kB
  gi_wp2_with (refine ⟨trivial, ?_⟩; gi_at_call 35; refine (pages_in _ _ trivial rfl _ _ _).mono ?_; rintro e w' ⟨rfl, rfl⟩)
  obtain ⟨d9, hd9⟩ : ∃ d9, d9 = d.extract 9 d.size := ⟨_, rfl⟩
  simp only [← hd9]
  refine wpIn_gen (fun W => W.heap[b4]? = some (.cells #[.int .i64 V, .int .i64 S, .int .i64 P, .int .i64 K, .slice none 0 0] 25 (0, 0)) ∧ W.heap[w.heap.size]? = some (.cells #[.int .i64 0, .int .i64 0, .int .i64 0, .int .i64 0, .slice none 0 0] 25 (0, 0)) ∧ Below w.heap.size w W ∧
    W.heap[W1.heap.size]? = some (.cells #[.string d9] 9 (0, 0)) ∧ W.heap[W1.heap.size + 1]? = some (.cells #[.int .i64 32] 3 (0, 0)) ∧ W.heap.size = W1.heap.size + 1 + 1) ⟨blk_alloc (blk_alloc k4 _) _, blk_alloc (blk_alloc k2 _) _, (KB.out.alloc (by have := KB.out.size; omega) _).alloc (by have := KB.out.size; simp; omega) _, blk_alloc (heap_new W1 _) _, by have h := heap_new (W1.alloc (.cells #[.string d9] 9)) (.cells #[.int .i64 32] 3); rw [World.size_alloc] at h; exact h, by simp⟩ ?_
  rintro W0 ⟨g4, g2, hB0, gd, gs, hsz1⟩
  obtain ⟨b2, hb2⟩ : ∃ b, b = w.heap.size := ⟨_, rfl⟩
  obtain ⟨bd, hbd⟩ : ∃ b, b = W1.heap.size := ⟨_, rfl⟩
  obtain ⟨bs, hbs⟩ : ∃ b, b = W1.heap.size + 1 := ⟨_, rfl⟩
  simp only [← hbs] at gs ⊢
  simp only [← hbd] at gd ⊢
  simp only [← hb2] at g2 ⊢
  have hgeo : b2 = w.heap.size ∧ b2 < b4 ∧ b4 < bd ∧ bs = bd + 1 ∧ W0.heap.size = bd + 2 := by omega
  have HGEO := Lib.hid hgeo
  clear hb2 hbd hbs hsz1 hsz0 hgeo k4 k2 kl KB
  have hz0 : bs < W0.heap.size := lt_of_block gs
  have hz1 : bd < W0.heap.size := lt_of_block gd
  have hd9s : d9.size = d.size - 9 := by rw [hd9, ByteArray.size_extract]; omega
  obtain ⟨C, hC9⟩ : ∃ C, C = (d.size - 9) / 32 := ⟨_, rfl⟩
  have hC : cnt d9.size 32 = C := by
    unfold cnt
    omega
  have hCN : ∀ i : Nat, (i : Int) * 32 < d9.size → i < C := fun i hi => page_lt (by omega) hC hi
  have hdp : dpages d = pgs d9 (List.range C) := by unfold dpages; rw [← hd9, ← hC9]
  rw [hdp] at HH
  have HD9 := Lib.hid hd9
  clear hd9 hdp
  refine wpIn_rangeFunc_ownG (n := 6) rfl (by omega) (gf := 55) (lb := #[.pointer (some ⟨bs, 0, none⟩), .pointer (some ⟨bd, 0, none⟩)]) rfl trivial (enters_of Try.func55 (by kernel_rfl) rfl)
    (pages_stops Fence.wide 5 trivial rfl (by omega) bs bd d9 32 (by omega) (by omega) W0 hz0 hz1 (by rw [cell_of gs]; rfl) (by rw [cell_of gd]; rfl) C hCN) keepsBoxes_t (keepsBoxes_b hz0 hz1) (Below.refl _ _) (fun _ => rfl)
    (DecI V S P K d9 b2 b2 b4 bd bs w) (fun _ _ _ => False) ?own (fun _ _ _ _ _ hs _ _ => hs) ?start
    (fun x => { tmps := #[(.string d), undef, (.pointer (some ⟨b2, 0, none⟩)), (.int .i64 0), (.pointer (some ⟨b4, 0, none⟩)), undef, (.string (pg d9 32 x.1)), (.string d), (.int .i64 (d.size : Int)), (.bool false), (.bool false), (.string d), (.int .i64 (d.size : Int)), (.int .i64 ((d.size : Int) - 9)), (.int .i64 (((d.size : Int) - 9) % 32)), (.bool false), (.bool false), (.bool false), (.string d), (.int .i64 (d.size : Int)), (.bool false), (.bool false), undef, (.string d), (.string (d.extract 0 2)), (.int .i64 V), (.string d), (.string (d.extract 2 6)), (.int .i64 S), (.string d), (.string (d.extract 6 8)), (.int .i64 P), (.string d), (.string (d.extract 8 9)), (.int .i64 K), (.agg #[.int .i64 V, .int .i64 S, .int .i64 P, .int .i64 K, .slice none 0 0]), (.string d), (.string d9), (.func (.func 55) #[] #[.pointer (some ⟨bs, 0, none⟩), .pointer (some ⟨bd, 0, none⟩)]), (.int .i64 (x.1 : Int)), (.string (pg d9 32 x.1)), undef, undef, undef, undef, undef, undef, undef, undef, undef, undef, undef, undef], defers := [] }) ?assign ?body ?done ?stop
  case own =>
    rintro pre X Y row ⟨⟨vv, hm, hrow⟩, h2, hd, hs, hB⟩ hg hr
    have hne : ∀ {g : Nat} {cs : Array Value} {t : TypeId}, X.heap[g]? = some (.cells cs t (0, 0)) → some g ≠ row := fun h e => by
      obtain ⟨_, o, ho, hc⟩ := hr _ e.symm
      rw [h] at ho
      cases ho
      cases hc
    have hgeo := HGEO.out
    refine ⟨⟨vv, blk_grown hm hg (hne hm), Kd.R_grown2 hrow rfl hg (fun j hj e => ?_)⟩, blk_grown h2 hg (hne h2), blk_grown hd hg (hne hd), blk_grown hs hg (hne hs), hB.grown hg (by have := blk_lt h2; omega) (fun j e => by have := (hr j e).1; omega)⟩
    obtain ⟨inner, ho⟩ := Kd.R_own hrow
    obtain ⟨cells, hc⟩ := own_typed ho j e.symm
    exact hne hc hj.symm
  case start => exact ⟨⟨_, g4, Kd.R_nil _ _ _ _ _⟩, g2, gd, gs, by rw [HGEO.out.1]; exact hB0⟩
  case assign =>
    intro l x W K hK
    gi_wp2
    exact hK
  case body =>
    rintro l pre x W ⟨⟨vv, hm, hrow⟩, h2, hd, hs, hB⟩ hlt
    have hBw : Below w.heap.size w W := by rw [← HGEO.out.1]; exact hB
    refine wpIn_block ?_
    refine startIn_ (n := 8) (S := fun w' => w'.cell? ⟨b4, 4, none⟩ = some vv) (ds := [7]) #[false, false, false, false, false, false, false, false] (by kernel_rfl) (by kernel_rfl) (by rintro ⟨a, w, h⟩; exact h) rfl rfl ((blk_cell (blk_drew hm) 4).trans rfl) (fun hHeld => ?_)
    refine pure_ (i := 0) (N := some 41) (v := ?_) (a' := ?_) #[true, false, false, false, false, false, false, false] rfl rfl (by kernel_rfl) (fun _ _ _ h => h) (Or.inl ⟨by rfl, ?_⟩) ?_ ?_
    rotate_left
    · intro w'
      go_simp
      with_reducible rfl
    rotate_left
    · simp only [Act.put, List.setIfInBounds_toArray, List.set_cons_zero, List.set_cons_succ]
      rfl
    refine pure_ (i := 2) (N := some 43) (v := ?_) (a' := ?_) #[true, false, true, false, false, false, false, false] rfl rfl (by kernel_rfl) (fun _ _ _ h => h) (Or.inl ⟨by rfl, ?_⟩) ?_ ?_
    rotate_left
    · intro w'
      go_simp
      with_reducible rfl
    rotate_left
    · simp only [Act.put, List.setIfInBounds_toArray, List.set_cons_zero, List.set_cons_succ]
      rfl
    refine take_ (i := 1) (N := some 42) (v := ?_) (a' := ?_) #[true, true, true, false, false, false, false, false] rfl rfl (by kernel_rfl) (fun _ _ _ h => h) (Or.inl ⟨by rfl, ?_⟩) hHeld ?_ ?_
    rotate_left
    · rintro w' s0
      go_simp
      with_reducible rfl
    rotate_left
    · simp only [Act.put, List.setIfInBounds_toArray, List.set_cons_zero, List.set_cons_succ]
      rfl
    refine one_ (i := 3) (N := some 44) #[true, true, true, true, false, false, false, false] rfl rfl (by kernel_rfl) (by decide) (fun K hK => ?_)
    refine goes_ Try.func50 (by kernel_rfl) rfl #[.string (pg d9 32 x.1)] (by rfl) rfl rfl (by simp only [List.map_toArray, List.map_cons, List.map_nil]; first | done | rfl) ?_
    refine (clone_any (pg d9 32 x.1) _ (by have := page_small d9 32 x.1 (by omega); omega)).mono ?_
    rintro e w1 ⟨rfl, hb⟩
    refine ⟨_, rfl, ?_⟩
    have hrow1 := Kd.R_below (Kd.R_drew hrow) hb
    have hm1 := blk_below (blk_drew hm) hb
    have h21 := blk_below (blk_drew h2) hb
    have hd1 := blk_below (blk_drew hd) hb
    have hs1 := blk_below (blk_drew hs) hb
    have hB1 : Below b2 w w1 := by rw [HGEO.out.1]; exact below_step (below_drew1 hBw) hb
    have hw1 : b2 ≤ w1.heap.size := by rw [HGEO.out.1]; exact hB1.size
    refine hK.out _ _ ((blk_cell hm1 4).trans rfl) (fun hHeld => ?_)
    clear hK K
    refine norm_ (a' := ?_) ?_ ?_
    rotate_left
    · show Act.put _ (some 44) _ = _
      simp only [Act.put, List.setIfInBounds_toArray, List.set_cons_zero, List.set_cons_succ]
      rfl
    refine one_ (i := 4) (N := some 45) #[true, true, true, true, true, false, false, false] rfl rfl (by kernel_rfl) (by decide) (fun K hK => ?_)
    refine value_ (w1 := ?_) (v := ?_) (by rfl) rfl ?_ ?_
    rotate_left 2
    · go_simp
      constructor
      · rfl
      · rfl
    refine hK.out _ _ ((blk_cell (blk_alloc hm1 _) 4).trans rfl) (fun hHeld => ?_)
    clear hK K
    refine norm_ (a' := ?_) ?_ ?_
    rotate_left
    · show Act.put _ (some 45) _ = _
      simp only [Act.put, List.setIfInBounds_toArray, List.set_cons_zero, List.set_cons_succ]
      rfl
    refine one_ (i := 5) (N := some 46) #[true, true, true, true, true, true, false, false] rfl rfl (by kernel_rfl) (by decide) (fun K hK => ?_)
    refine Kd.R_append_step Kd.string (w0 := w) b2 (by rfl) (.tmp 42) (.tmp 45) 23 9 (.string ⟨#[]⟩) 16 rfl Try.underlying23 infoStr rfl (by decide) (by omega) vv _ (pg d9 32 x.1) [.string (pg d9 32 x.1)] (fun j => bs < j) (fun _ => False) rfl rfl rfl (fun _ hk => hk.elim) (fun j hj => by have := blk_lt hs1; omega) hrow1 hB1 hw1 ?_ ?_
    · have hl : (pgs d9 (pre.map Subtype.val)).length = pre.length := by simp [pgs]
      rw [hl]
      omega
    intro v1 w2 hrow2 hB2 hg2 hat
    have edig : pgs d9 ((pre ++ [x]).map Subtype.val) = pgs d9 (pre.map Subtype.val) ++ [pg d9 32 x.1] := by simp [pgs]
    rw [← edig] at hrow2
    obtain ⟨LL, hLL⟩ : ∃ LL, LL = pgs d9 ((pre ++ [x]).map Subtype.val) := ⟨_, rfl⟩
    rw [← hLL] at hrow2
    have HLL := Lib.hid hLL
    clear hLL edig
    obtain ⟨A1, c1, hv1⟩ := Kd.R_slice hrow2
    have ned : some bd ≠ vv.ownBlock := fun e => by have := hrow1.1 bd e.symm; have := HGEO.out; omega
    have hm2 := blk_grown hm1 hg2 (Kd.R_ne hrow1 hm1 (by decide))
    have h22 := blk_grown h21 hg2 (Kd.R_ne hrow1 h21 (by decide))
    have hs2 := blk_grown hs1 hg2 (Kd.R_ne hrow1 hs1 (by decide))
    have hd2 := blk_grown hd1 hg2 ned
    subst hv1
    refine hK.out _ _ ((blk_cell hm2 4).trans rfl) (fun hHeld => ?_)
    clear hK K
    refine norm_ (a' := ?_) ?_ ?_
    rotate_left
    · show Act.put _ (some 46) _ = _
      simp only [Act.put, List.setIfInBounds_toArray, List.set_cons_zero, List.set_cons_succ]
      rfl
    refine pure_ (i := 6) (N := some 47) (v := ?_) (a' := ?_) #[true, true, true, true, true, true, true, false] rfl rfl (by kernel_rfl) (fun _ _ _ h => h) (Or.inl ⟨by rfl, ?_⟩) ?_ ?_
    rotate_left
    · intro w'
      go_simp
      with_reducible rfl
    rotate_left
    · simp only [Act.put, List.setIfInBounds_toArray, List.set_cons_zero, List.set_cons_succ]
      rfl
    refine last_ (i := 7) (N := none) #[true, true, true, true, true, true, true, true] rfl rfl (by kernel_rfl) (by decide) (fun K hK => ?_)
    have hsc : w2.cell? ⟨b4, 4, none⟩ = some vv := (blk_cell hm2 4).trans rfl
    have hfs := blk_frozen hm2 4
    refine skip_ (w1 := ?_) (by rfl) rfl ?_ ?_
    rotate_left
    · go_simp
      rfl
    refine hK.out _ _ ?_
    clear hK K
    refine done_ (by kernel_rfl) ?_
    have hgeo := HGEO.out
    have h23 := blk_far (p := ⟨b4, 4, none⟩) h22 (by show b2 ≠ b4; omega) (.slice A1 LL.length c1)
    have hd3 := blk_far (p := ⟨b4, 4, none⟩) hd2 (by show bd ≠ b4; omega) (.slice A1 LL.length c1)
    have hs3 := blk_far (p := ⟨b4, 4, none⟩) hs2 (by show bs ≠ b4; omega) (.slice A1 LL.length c1)
    have hm3 := blk_put hm2 4 (.slice A1 LL.length c1) rfl
    have hrow3 := Kd.R_grown2 hrow2 rfl (Lib.grownBy_setCell w2 b4 4 (.slice A1 LL.length c1)) (fun j hj => by cases hj; exact Kd.R_ne hrow2 hm2 (by decide))
    have hk1 : KeepsOthers W w1 := ⟨hb.size, fun j o hj _ => (hb.block j (lt_of_block hj)).trans hj⟩
    refine ⟨((hk1.trans (KeepsOthers.of_grownBy hg2 fun j o ej hj => ?_)).trans (KeepsOthers.setCell _ _ _)).from _, ⟨(blk_cell hs3 0).trans (blk_cell hs 0).symm, (blk_cell hd3 0).trans (blk_cell hd 0).symm⟩, ⟨⟨_, hm3, by rw [← HLL.out]; exact hrow3⟩, h23, hd3, hs3, hB2.setCell (p := ⟨b4, 4, none⟩) (by show b2 ≤ b4; omega) _⟩⟩
    obtain ⟨inner, ho⟩ := Kd.R_own hrow1
    obtain ⟨cells, hc⟩ := own_typed ho j ej
    rw [hc] at hj
    cases hj
    rfl
  case done =>
    rintro D xs W hD ⟨hx1, hx2⟩ ⟨⟨vv, hm, hrow⟩, h2, hd, hs, hB⟩ hKd
    have hgeo := HGEO.out
    have hlen : xs.length = C := pages_all (by omega) hC xs hx1 hx2 hCN
    rw [hx1, hlen] at hrow
    obtain ⟨LL, hLL⟩ : ∃ LL, LL = pgs d9 (List.range C) := ⟨_, rfl⟩
    rw [← hLL] at hrow HH
    have hll : LL.length ≤ 9223372036854775807 := by rw [hLL]; simp [pgs]; omega
    clear hLL
    obtain ⟨A1, c1, rfl, hc1, hread⟩ := Kd.R_reads hrow
    have hst := strs_of hread
    have hBw : Below w.heap.size w W := by rw [← hgeo.1]; exact hB
    have hck := check_man V S P K A1 c1 LL W hst hll
    have HG2 := Lib.hid hgeo
    clear hgeo hst hread
    have x0 : W.cell? ⟨b4, 0, none⟩ = some (.int .i64 V) := (blk_cell hm 0).trans rfl
    have x1 : W.cell? ⟨b4, 1, none⟩ = some (.int .i64 S) := (blk_cell hm 1).trans rfl
    have x2 : W.cell? ⟨b4, 2, none⟩ = some (.int .i64 P) := (blk_cell hm 2).trans rfl
    have x3 : W.cell? ⟨b4, 3, none⟩ = some (.int .i64 K) := (blk_cell hm 3).trans rfl
    have x4 : W.cell? ⟨b4, 4, none⟩ = some (.slice A1 LL.length c1) := (blk_cell hm 4).trans rfl
    by_cases hok : okMan V S P K LL = true
    · rw [if_pos hok] at hck
      have hq := HH.out
      rw [if_pos hok] at hq
      simp only [Option.some.injEq, Prod.mk.injEq] at hq
      obtain ⟨e1, e2, e3, e4, e5, e6⟩ := hq
      subst e1 e2 e3 e4 e5 e6
      clear hok HH
      gi_wp2_with (refine ⟨trivial, ?_⟩; gi_at_call 20; refine (callsIn_wide.2 hck).mono ?_; rintro e w2 ⟨rfl, hb⟩; have hm2 := blk_below hm hb; have h22 := blk_below h2 hb; have z0 : w2.cell? ⟨b4, 0, none⟩ = some (.int .i64 V) := (blk_cell hm2 0).trans rfl; have z1 : w2.cell? ⟨b4, 1, none⟩ = some (.int .i64 S) := (blk_cell hm2 1).trans rfl; have z2 : w2.cell? ⟨b4, 2, none⟩ = some (.int .i64 P) := (blk_cell hm2 2).trans rfl; have z3 : w2.cell? ⟨b4, 3, none⟩ = some (.int .i64 K) := (blk_cell hm2 3).trans rfl; have z4 : w2.cell? ⟨b4, 4, none⟩ = some (.slice A1 LL.length c1) := (blk_cell hm2 4).trans rfl; have y0 : w2.cell? ⟨b2, 0, none⟩ = some (.int .i64 0) := (blk_cell h22 0).trans rfl; have f0 := blk_frozen h22 0; have y1 : w2.cell? ⟨b2, 1, none⟩ = some (.int .i64 0) := (blk_cell h22 1).trans rfl; have f1 := blk_frozen h22 1; have y2 : w2.cell? ⟨b2, 2, none⟩ = some (.int .i64 0) := (blk_cell h22 2).trans rfl; have f2 := blk_frozen h22 2; have y3 : w2.cell? ⟨b2, 3, none⟩ = some (.int .i64 0) := (blk_cell h22 3).trans rfl; have f3 := blk_frozen h22 3; have y4 : w2.cell? ⟨b2, 4, none⟩ = some (.slice none 0 0) := (blk_cell h22 4).trans rfl; have f4 := blk_frozen h22 4; have Hb := Lib.hid hb; clear hb)
      have hgeo := HG2.out
      have hb := Hb.out
      have hK2 : w2.heap[D]? = some (.deferred (some [])) := (hb.block D (lt_of_block hKd)).trans hKd
      have hm5 := man_store h22 (.int .i64 V) (.int .i64 S) (.int .i64 P) (.int .i64 K) (.slice A1 LL.length c1)
      have hB5 := man_below (below_step hBw hb) (show w.heap.size ≤ b2 by omega) (.int .i64 V) (.int .i64 S) (.int .i64 P) (.int .i64 K) (.slice A1 LL.length c1)
      have hne : D ≠ b2 := by have := blk_lt g2; omega
      have hK5 : (((((w2.setCell ⟨b2, 0, none⟩ (.int .i64 V)).setCell ⟨b2, 1, none⟩ (.int .i64 S)).setCell ⟨b2, 2, none⟩ (.int .i64 P)).setCell ⟨b2, 3, none⟩ (.int .i64 K)).setCell ⟨b2, 4, none⟩ (.slice A1 LL.length c1)).heap[D]? = some (.deferred (some [])) :=
        heap_set_other (heap_set_other (heap_set_other (heap_set_other (heap_set_other hK2 hne _) hne _) hne _) hne _) hne _
      have hrow5 : Kd.R Kd.string 9 (((((w2.setCell ⟨b2, 0, none⟩ (.int .i64 V)).setCell ⟨b2, 1, none⟩ (.int .i64 S)).setCell ⟨b2, 2, none⟩ (.int .i64 P)).setCell ⟨b2, 3, none⟩ (.int .i64 K)).setCell ⟨b2, 4, none⟩ (.slice A1 LL.length c1)) b2 (fun j => bs < j) (.slice A1 LL.length c1) LL :=
        Kd.R_far (Kd.R_far (Kd.R_far (Kd.R_far (Kd.R_far (Kd.R_below hrow hb) (p := ⟨b2, 0, none⟩) (fun j hj => by show j ≠ b2; omega) _) (p := ⟨b2, 1, none⟩) (fun j hj => by show j ≠ b2; omega) _) (p := ⟨b2, 2, none⟩) (fun j hj => by show j ≠ b2; omega) _) (p := ⟨b2, 3, none⟩) (fun j hj => by show j ≠ b2; omega) _) (p := ⟨b2, 4, none⟩) (fun j hj => by show j ≠ b2; omega) _
      have RR := Kd.R_mono (Kd.R_grown2 hrow5 rfl (grownBy_putObj' _ D (.deferred none)) (fun j hj e => own_not_def hrow5 hK5 hj e)) (ok' := fun _ => True) (fun _ _ => trivial)
      exact leave_dec_d rfl rfl hm5 hne hK5 ⟨_, rfl, by rw [← hgeo.1]; exact RR, hB5.trans (belowK_b (w := w) (Nat.le_refl _) _ D _ _ (by omega) hK5 rfl rfl)⟩
    · rw [if_neg hok] at hck
      have hq := HH.out
      rw [if_neg hok] at hq
      simp only [Option.some.injEq, Prod.mk.injEq] at hq
      obtain ⟨e1, e2, e3, e4, e5, e6⟩ := hq
      subst e1 e2 e3 e4 e5 e6
      clear hok HH
      gi_wp2_with (refine ⟨trivial, ?_⟩; gi_at_call 20; refine (callsIn_wide.2 hck).mono ?_; rintro e w2 ⟨rfl, hb⟩; have hm2 := blk_below hm hb; have h22 := blk_below h2 hb; have z0 : w2.cell? ⟨b4, 0, none⟩ = some (.int .i64 V) := (blk_cell hm2 0).trans rfl; have z1 : w2.cell? ⟨b4, 1, none⟩ = some (.int .i64 S) := (blk_cell hm2 1).trans rfl; have z2 : w2.cell? ⟨b4, 2, none⟩ = some (.int .i64 P) := (blk_cell hm2 2).trans rfl; have z3 : w2.cell? ⟨b4, 3, none⟩ = some (.int .i64 K) := (blk_cell hm2 3).trans rfl; have z4 : w2.cell? ⟨b4, 4, none⟩ = some (.slice A1 LL.length c1) := (blk_cell hm2 4).trans rfl; have y0 : w2.cell? ⟨b2, 0, none⟩ = some (.int .i64 0) := (blk_cell h22 0).trans rfl; have f0 := blk_frozen h22 0; have y1 : w2.cell? ⟨b2, 1, none⟩ = some (.int .i64 0) := (blk_cell h22 1).trans rfl; have f1 := blk_frozen h22 1; have y2 : w2.cell? ⟨b2, 2, none⟩ = some (.int .i64 0) := (blk_cell h22 2).trans rfl; have f2 := blk_frozen h22 2; have y3 : w2.cell? ⟨b2, 3, none⟩ = some (.int .i64 0) := (blk_cell h22 3).trans rfl; have f3 := blk_frozen h22 3; have y4 : w2.cell? ⟨b2, 4, none⟩ = some (.slice none 0 0) := (blk_cell h22 4).trans rfl; have f4 := blk_frozen h22 4; have Hb := Lib.hid hb; clear hb)
      have hgeo := HG2.out
      have hb := Hb.out
      have hK2 : w2.heap[D]? = some (.deferred (some [])) := (hb.block D (lt_of_block hKd)).trans hKd
      have hm5 := man_store h22 (.int .i64 0) (.int .i64 0) (.int .i64 0) (.int .i64 0) (.slice none 0 0)
      have hB5 := man_below (below_step hBw hb) (show w.heap.size ≤ b2 by omega) (.int .i64 0) (.int .i64 0) (.int .i64 0) (.int .i64 0) (.slice none 0 0)
      have hne : D ≠ b2 := by have := blk_lt g2; omega
      have hK5 : (((((w2.setCell ⟨b2, 0, none⟩ (.int .i64 0)).setCell ⟨b2, 1, none⟩ (.int .i64 0)).setCell ⟨b2, 2, none⟩ (.int .i64 0)).setCell ⟨b2, 3, none⟩ (.int .i64 0)).setCell ⟨b2, 4, none⟩ (.slice none 0 0)).heap[D]? = some (.deferred (some [])) :=
        heap_set_other (heap_set_other (heap_set_other (heap_set_other (heap_set_other hK2 hne _) hne _) hne _) hne _) hne _
      have RR := Kd.R_nil Kd.string 9 ((((((w2.setCell ⟨b2, 0, none⟩ (.int .i64 0)).setCell ⟨b2, 1, none⟩ (.int .i64 0)).setCell ⟨b2, 2, none⟩ (.int .i64 0)).setCell ⟨b2, 3, none⟩ (.int .i64 0)).setCell ⟨b2, 4, none⟩ (.slice none 0 0)).putObj D (.deferred none)) w.heap.size (fun _ => True)
      exact leave_dec_d rfl rfl hm5 hne hK5 ⟨_, rfl, RR, hB5.trans (belowK_b (w := w) (Nat.le_refl _) _ D _ _ (by omega) hK5 rfl rfl)⟩
  case stop =>
    rintro D c pre W _ _ h _
    exact h.elim

end Go.Proofs.Ytnfcohpljgmaiaa
