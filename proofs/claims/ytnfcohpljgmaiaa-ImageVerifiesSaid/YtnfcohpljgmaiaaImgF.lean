/- image.Intact -/
import Derived.Test.YtnfcohpljgmaiaaImgE
namespace Go.Proofs.Ytnfcohpljgmaiaa
open Go.RowKit Go.Shelf Go.Proofs.YtnfcohpljgmaiaaW.PrintLast Go.Proofs.YtnfcohpljgmaiaaW.PrintWords Go.Proofs.Ytnfcohpljgmaiaa.B
attribute [local go_sem] Oper.semAt_some

/-- Page i has its digest. -/
def pageOk (V P : Int) (d : ByteArray) (l : List ByteArray) (i : Nat) : Bool := (psum V i (pg d P i)).toList == (strAt l i).toList
def fIntact (V S P K : Int) (l : List ByteArray) (d : ByteArray) : Option Int :=
  if l.length > 1000000000 then none
  else if okMan V S P K l = true then (if (d.size : Int) = S then some (if (List.range l.length).all (pageOk V P d l) = true then 0 else 20) else some 11) else some 1

theorem int_results (tmps : Array Value) {W : World} {B : Nat} {e : Value} {T : TypeId} (hb : tmps[4]?.getD undef = .pointer (some ⟨B, 0, none⟩)) (h : W.heap[B]? = some (.cells #[e] T (0, 0))) :
    (results Try.f28 tmps).run Try.prog W = .ok e W := by
  have z0 : W.cell? ⟨B, 0, none⟩ = some e := by rw [cell_of h]; rfl
  simp [results, Try.f28, go_sem, hb, z0]
theorem leave_int {tmps : Array Value} {W : World} {B n : Nat} {e : Value} {T : TypeId} {R : Ending → World → Prop} (hb : tmps[4]?.getD undef = .pointer (some ⟨B, 0, none⟩)) (h : W.heap[B]? = some (.cells #[e] T (0, 0)))
    (hR : R (.returned e) W) : bodyPostM Fence.wide n Try.prog Try.f28 R .ret { tmps := tmps, defers := [] } W :=
  ⟨_, int_results tmps hb h, hR⟩
theorem leave_int_d {tmps : Array Value} {W : World} {B D n : Nat} {e : Value} {T : TypeId} {R : Ending → World → Prop} (hb : tmps[4]?.getD undef = .pointer (some ⟨B, 0, none⟩)) (h : W.heap[B]? = some (.cells #[e] T (0, 0))) (hne : D ≠ B)
    (hK : W.heap[D]? = some (.deferred (some []))) (hR : R (.returned e) (W.putObj D (.deferred none))) : bodyPostM Fence.wide n Try.prog Try.f28 R .ret { tmps := tmps, defers := [{ target := .collected D, args := #[] }] } W :=
  ⟨by simp, .inl ⟨_, _, rfl, run_takeDeferred hK, ⟨_, int_results tmps hb ((World.putObj_heap_other (fun e => hne e.symm)).trans h), hR⟩⟩⟩

/-- Between two rounds of Intact's loop. -/
def IntI (V S P K : Int) (A : Option Addr) (c : Nat) (l : List ByteArray) (d : ByteArray) (b2 b4 bd bs : Nat) (e : Int) (w W : World) : Prop :=
  W.heap[b2]? = some (.cells #[.int .i64 V, .int .i64 S, .int .i64 P, .int .i64 K, .slice A l.length c] 25 (0, 0)) ∧ W.heap[b4]? = some (.cells #[.int .i64 e] 26 (0, 0)) ∧
  W.heap[bd]? = some (.cells #[.string d] 9 (0, 0)) ∧ W.heap[bs]? = some (.cells #[.int .i64 P] 3 (0, 0)) ∧ Below b2 w W

theorem intI_own {V S P K : Int} {A : Option Addr} {c : Nat} {l : List ByteArray} {d : ByteArray} {b2 b4 bd bs B : Nat} {e : Int} {w : World} {β : Type} (hBB : b2 ≤ B) (Q : β → Prop) :
    OwnFrom B (fun (pre : β) W => IntI V S P K A c l d b2 b4 bd bs e w W ∧ Q pre) := by
  rintro pre X Y row ⟨⟨hm, he, hd, hs, hB⟩, hq⟩ hg hr
  have hne : ∀ {g : Nat} {cs : Array Value} {t : TypeId}, X.heap[g]? = some (.cells cs t (0, 0)) → some g ≠ row := fun h e => by
    obtain ⟨_, o, ho, hc⟩ := hr _ e.symm
    rw [h] at ho
    cases ho
    cases hc
  exact ⟨⟨blk_grown hm hg (hne hm), blk_grown he hg (hne he), blk_grown hd hg (hne hd), blk_grown hs hg (hne hs), hB.grown hg (by have := blk_lt hm; omega) (fun j e => by have := (hr j e).1; omega)⟩, hq⟩

set_option maxRecDepth 100000 in
set_option maxHeartbeats 1000000 in
theorem intact_any (V S P K : Int) (A : Option Addr) (c : Nat) (l : List ByteArray) (d : ByteArray) (r : Int) (w : World) (hst : StrsAt w A l) (h : fIntact V S P K l d = some r) :
    Calls Try.prog 28 #[.agg #[.int .i64 V, .int .i64 S, .int .i64 P, .int .i64 K, .slice A l.length c], .string d] w fun e w' => e = .returned (.int .i64 r) ∧ Below w.heap.size w w' := by
  unfold fIntact at h
  by_cases hlim : l.length > 1000000000
  · rw [if_pos hlim] at h
    cases h
  rw [if_neg hlim] at h
  have hm := blk_alloc (heap_new w (.cells #[.int .i64 V, .int .i64 S, .int .i64 P, .int .i64 K, .slice A l.length c] 25)) (.cells #[.int .i64 0] 26)
  have he := heap_new (w.alloc (.cells #[.int .i64 V, .int .i64 S, .int .i64 P, .int .i64 K, .slice A l.length c] 25)) (.cells #[.int .i64 0] 26)
  rw [World.size_alloc] at he
  have hbl := ((Below.refl w.heap.size w).alloc (Nat.le_refl _) (.cells #[.int .i64 V, .int .i64 S, .int .i64 P, .int .i64 K, .slice A l.length c] 25)).alloc (by simp) (.cells #[.int .i64 0] 26)
  have hs1 : ((w.alloc (.cells #[.int .i64 V, .int .i64 S, .int .i64 P, .int .i64 K, .slice A l.length c] 25)).alloc (.cells #[.int .i64 0] 26)).heap.size = w.heap.size + 1 + 1 := by rw [World.size_alloc, World.size_alloc]
  have hck := check_man V S P K A c l _ (strs_below hst hbl) (by omega)
  refine (callsIn_wide (n := 6)).1 ?_
  refine callsIn_of_wp_marks Try.func28 rfl trivial ?_ rfl
  simp only [Try.ntmps28, List.size_toArray, List.length_cons, List.length_nil, Nat.reduceAdd, Nat.reduceSub, Array.replicate_succ, Array.replicate_zero, List.push_toArray, List.append_toArray, List.nil_append, List.cons_append]
  have HM := Lib.hid hm
  have HE := Lib.hid he
  have HB := Lib.hid hbl
  have HS1 := Lib.hid hs1
  clear hm he hbl hs1
  by_cases hok : okMan V S P K l = true
  rotate_left
  · rw [if_neg hok] at h hck
    obtain rfl := Option.some.inj h
    gi_wp2_with first | (refine ⟨trivial, ?_⟩; gi_at_call 20; refine (callsIn_wide.2 hck).mono ?_; rintro e w2 ⟨rfl, hb⟩; have hm2 := blk_below HM.out hb; have he2 := blk_below HE.out hb; have z0 : w2.cell? ⟨w.heap.size, 0, none⟩ = some (.int .i64 V) := (blk_cell hm2 0).trans rfl; have z1 : w2.cell? ⟨w.heap.size, 1, none⟩ = some (.int .i64 S) := (blk_cell hm2 1).trans rfl; have z2 : w2.cell? ⟨w.heap.size, 2, none⟩ = some (.int .i64 P) := (blk_cell hm2 2).trans rfl; have z3 : w2.cell? ⟨w.heap.size, 3, none⟩ = some (.int .i64 K) := (blk_cell hm2 3).trans rfl; have z4 : w2.cell? ⟨w.heap.size, 4, none⟩ = some (.slice A l.length c) := (blk_cell hm2 4).trans rfl; have y0 : w2.cell? ⟨w.heap.size + 1, 0, none⟩ = some (.int .i64 0) := (blk_cell he2 0).trans rfl; have f0 := blk_frozen he2 0; have Hb := Lib.hid hb; clear hb)
    have hb := Hb.out
    exact leave_int rfl (one_setCell he2) ⟨rfl, (below_then HB.out HB.out.size hb).setCell (p := ⟨w.heap.size + 1, 0, none⟩) (by show w.heap.size ≤ w.heap.size + 1; omega) _⟩
  rw [if_pos hok] at h hck
  have hof := hok
  unfold okMan at hof
  simp only [Bool.and_eq_true, decide_eq_true_eq] at hof
  have hfa := okSizes_facts hof.1.1
  have hfb := hof.1.2
  clear hof
  by_cases hsz : (d.size : Int) = S
  rotate_left
  · rw [if_neg hsz] at h
    obtain rfl := Option.some.inj h
    have hszb : ((d.size : Int) != S) = true := by simpa using hsz
    gi_wp2_with first | (refine ⟨trivial, ?_⟩; gi_at_call 20; refine (callsIn_wide.2 hck).mono ?_; rintro e w2 ⟨rfl, hb⟩; have hm2 := blk_below HM.out hb; have he2 := blk_below HE.out hb; have z0 : w2.cell? ⟨w.heap.size, 0, none⟩ = some (.int .i64 V) := (blk_cell hm2 0).trans rfl; have z1 : w2.cell? ⟨w.heap.size, 1, none⟩ = some (.int .i64 S) := (blk_cell hm2 1).trans rfl; have z2 : w2.cell? ⟨w.heap.size, 2, none⟩ = some (.int .i64 P) := (blk_cell hm2 2).trans rfl; have z3 : w2.cell? ⟨w.heap.size, 3, none⟩ = some (.int .i64 K) := (blk_cell hm2 3).trans rfl; have z4 : w2.cell? ⟨w.heap.size, 4, none⟩ = some (.slice A l.length c) := (blk_cell hm2 4).trans rfl; have y0 : w2.cell? ⟨w.heap.size + 1, 0, none⟩ = some (.int .i64 0) := (blk_cell he2 0).trans rfl; have f0 := blk_frozen he2 0; have Hb := Lib.hid hb; clear hb)
    have hb := Hb.out
    exact leave_int rfl (one_setCell he2) ⟨rfl, (below_then HB.out HB.out.size hb).setCell (p := ⟨w.heap.size + 1, 0, none⟩) (by show w.heap.size ≤ w.heap.size + 1; omega) _⟩
  rw [if_pos hsz] at h
  have hszb : ((d.size : Int) != S) = false := by simpa using hsz
  gi_wp2_with first | (refine ⟨trivial, ?_⟩; gi_at_call 20; refine (callsIn_wide.2 hck).mono ?_; rintro e w2 ⟨rfl, hb⟩; have hm2 := blk_below HM.out hb; have he2 := blk_below HE.out hb; have z0 : w2.cell? ⟨w.heap.size, 0, none⟩ = some (.int .i64 V) := (blk_cell hm2 0).trans rfl; have z1 : w2.cell? ⟨w.heap.size, 1, none⟩ = some (.int .i64 S) := (blk_cell hm2 1).trans rfl; have z2 : w2.cell? ⟨w.heap.size, 2, none⟩ = some (.int .i64 P) := (blk_cell hm2 2).trans rfl; have z3 : w2.cell? ⟨w.heap.size, 3, none⟩ = some (.int .i64 K) := (blk_cell hm2 3).trans rfl; have z4 : w2.cell? ⟨w.heap.size, 4, none⟩ = some (.slice A l.length c) := (blk_cell hm2 4).trans rfl; have y0 : w2.cell? ⟨w.heap.size + 1, 0, none⟩ = some (.int .i64 0) := (blk_cell he2 0).trans rfl; have f0 := blk_frozen he2 0; have Hb := Lib.hid hb; clear hb) | (refine ⟨trivial, ?_⟩; gi_at_call 35; refine (pages_in _ _ trivial rfl _ _ _).mono ?_; rintro e w' ⟨rfl, rfl⟩)
  refine wpIn_gen (fun W => W.heap[w.heap.size]? = some (.cells #[.int .i64 V, .int .i64 S, .int .i64 P, .int .i64 K, .slice A l.length c] 25 (0, 0)) ∧ W.heap[w.heap.size + 1]? = some (.cells #[.int .i64 0] 26 (0, 0)) ∧ Below w.heap.size w W ∧
    W.heap[w2.heap.size]? = some (.cells #[.string d] 9 (0, 0)) ∧ W.heap[w2.heap.size + 1]? = some (.cells #[.int .i64 P] 3 (0, 0)) ∧ W.heap.size = w2.heap.size + 1 + 1)
    ⟨blk_alloc (blk_alloc hm2 _) _, blk_alloc (blk_alloc he2 _) _, ((below_then HB.out HB.out.size Hb.out).alloc (by have := blk_lt hm2; omega) _).alloc (by have := blk_lt hm2; simp; omega) _, blk_alloc (heap_new w2 _) _, by have h := heap_new (w2.alloc (.cells #[.string d] 9)) (.cells #[.int .i64 P] 3); rw [World.size_alloc] at h; exact h, by simp⟩ ?_
  rintro W0 ⟨g2, g4, hB0, gd, gs, hsz1⟩
  have hlt2 := blk_lt he2
  obtain ⟨b2, hb2⟩ : ∃ b, b = w.heap.size := ⟨_, rfl⟩
  obtain ⟨b4, hb4⟩ : ∃ b, b = w.heap.size + 1 := ⟨_, rfl⟩
  obtain ⟨bd, hbd⟩ : ∃ b, b = w2.heap.size := ⟨_, rfl⟩
  obtain ⟨bs, hbs⟩ : ∃ b, b = w2.heap.size + 1 := ⟨_, rfl⟩
  clear z0 z1 z2 z3 z4 y0 f0 hm2 he2 hck HM HE HB HS1 Hb
  simp only [← hbs] at gs ⊢
  simp only [← hbd] at gd ⊢
  simp only [← hb4] at g4 ⊢
  simp only [← hb2] at g2 ⊢
  have hgeo : b2 = w.heap.size ∧ b4 = b2 + 1 ∧ b4 < bd ∧ bs = bd + 1 ∧ W0.heap.size = bd + 2 := by omega
  have HGEO := Lib.hid hgeo
  clear hb2 hb4 hbd hbs hsz1 hlt2 hgeo
  have hz0 : bs < W0.heap.size := lt_of_block gs
  have hz1 : bd < W0.heap.size := lt_of_block gd
  have hC : cnt d.size P = l.length := by rw [hsz]; omega
  have hCN : ∀ i : Nat, (i : Int) * P < d.size → i < l.length := fun i hi => page_lt (by omega) hC hi
  have HH := Lib.hid h
  have HST := Lib.hid hst
  clear h hst hszb
  have hvw : (Lit.int .i64 V).wf = true := Go.WalkArith.wf_i64 ⟨by omega, by omega⟩
  have hds : (d.size : Int) ≤ 65536 := by omega
  have hP1 : 1 ≤ P := by omega
  have hP2 : P ≤ 4096 := by omega
  have HFB := Lib.hid hfb
  have HSZ := Lib.hid hsz
  have HCC := Lib.hid hC
  clear hfb hsz hC hfa hok
  refine wpIn_rangeFunc_ownG (n := 6) rfl (by omega) (gf := 55) (lb := #[.pointer (some ⟨bs, 0, none⟩), .pointer (some ⟨bd, 0, none⟩)]) rfl trivial (enters_of Try.func55 (by kernel_rfl) rfl)
    (pages_stops Fence.wide 5 trivial rfl (by omega) bs bd d P (by omega) (by omega) W0 hz0 hz1 (by rw [cell_of gs]; rfl) (by rw [cell_of gd]; rfl) l.length hCN) keepsBoxes_t (keepsBoxes_b hz0 hz1) (Below.refl _ _) (fun _ => rfl)
    (fun pre W => IntI V S P K A c l d b2 b4 bd bs 0 w W ∧ ∀ x ∈ pre, pageOk V P d l x.1 = true) (fun cc pre W => (IntI V S P K A c l d b2 b4 bd bs 20 w W ∧ ∃ x ∈ pre, pageOk V P d l x.1 = false) ∧ cc = .ret) ?own ?ownx ?start
    (fun x => { tmps := #[(.agg #[.int .i64 V, .int .i64 S, .int .i64 P, .int .i64 K, .slice A l.length c]), (.string d), (.pointer (some ⟨b2, 0, none⟩)), undef, (.pointer (some ⟨b4, 0, none⟩)), (.int .i64 (x.1 : Int)), (.string (pg d P x.1)), (.bool false), (.agg #[.int .i64 V, .int .i64 S, .int .i64 P, .int .i64 K, .slice A l.length c]), (.int .i64 0), (.bool false), (.bool false), (.string d), (.int .i64 S), (.pointer (some ⟨b2, 1, none⟩)), (.int .i64 S), (.bool false), (.string d), (.pointer (some ⟨b2, 2, none⟩)), (.int .i64 P), (.func (.func 55) #[] #[.pointer (some ⟨bs, 0, none⟩), .pointer (some ⟨bd, 0, none⟩)]), (.int .i64 (x.1 : Int)), (.string (pg d P x.1)), undef, undef, undef, undef, undef, undef, undef, undef, undef, undef, undef], defers := [] }) ?assign ?body ?done ?stop
  case own =>
    have hbb : b2 ≤ W0.heap.size := by have := HGEO.out; omega
    exact intI_own (β := List (PgNo d P)) hbb (fun pre => ∀ x ∈ pre, pageOk V P d l x.1 = true)
  case ownx =>
    have hbb : b2 ≤ W0.heap.size := by have := HGEO.out; omega
    intro cc
    have h1 := intI_own (V := V) (S := S) (P := P) (K := K) (A := A) (c := c) (l := l) (d := d) (b2 := b2) (b4 := b4) (bd := bd) (bs := bs) (e := 20) (w := w) (β := List (PgNo d P)) hbb (fun pre => ∃ x ∈ pre, pageOk V P d l x.1 = false)
    exact fun s X Y row hs hg hr => ⟨h1 s X Y row hs.1 hg hr, hs.2⟩
  case start => exact ⟨⟨g2, g4, gd, gs, by rw [HGEO.out.1]; exact hB0⟩, fun x hx => by cases hx⟩
  case assign =>
    intro l x W K hK
    gi_wp2
    exact hK
  case body =>
    rintro lr pre x W ⟨⟨hm, he, hd, hs, hB⟩, hall⟩ hlt
    have hBw : Below w.heap.size w W := by rw [← HGEO.out.1]; exact hB
    have hxl : x.1 < l.length := hCN _ x.2
    have hxi : (x.1 : Int) < (l.length : Int) := by omega
    obtain ⟨g, off, hA, hcl⟩ := HST.out x.1 hxl
    have hgl : g < w.heap.size := cell_lt hcl
    have hclW : W.cell? ⟨g, off + x.1, none⟩ = some (.string (strAt l x.1)) := (hBw.cell (p := ⟨g, off + x.1, none⟩) hgl).trans hcl
    subst hA
    refine wpIn_block (wpIn_seq_k fun KK hKK => ?_)
    refine startIn_ (n := 11) (S := fun w' => w'.cell? ⟨b2, 0, none⟩ = some (.int .i64 V) ∧ w'.cell? ⟨b2, 4, none⟩ = some (.slice (some ⟨g, off, none⟩) l.length c) ∧ w'.cell? ⟨g, off + x.1, none⟩ = some (.string (strAt l x.1))) (ds := []) #[false, false, false, false, false, false, false, false, false, false, false] (by kernel_rfl) (by kernel_rfl) (by rintro ⟨a, w, h⟩; exact h) rfl rfl ⟨(blk_cell (blk_drew hm) 0).trans rfl, (blk_cell (blk_drew hm) 4).trans rfl, hclW⟩ (fun hHeld => ?_)
    refine pure_ (i := 0) (N := some 23) (v := ?_) (a' := ?_) #[true, false, false, false, false, false, false, false, false, false, false] rfl rfl (by kernel_rfl) (fun _ _ _ h => h) (Or.inl ⟨by rfl, ?_⟩) ?_ ?_
    rotate_left
    · intro w'
      go_simp
      with_reducible rfl
    rotate_left
    · simp only [Act.put, List.setIfInBounds_toArray, List.set_cons_zero, List.set_cons_succ]
      rfl
    refine pure_ (i := 2) (N := some 25) (v := ?_) (a' := ?_) #[true, false, true, false, false, false, false, false, false, false, false] rfl rfl (by kernel_rfl) (fun _ _ _ h => h) (Or.inl ⟨by rfl, ?_⟩) ?_ ?_
    rotate_left
    · intro w'
      go_simp
      with_reducible rfl
    rotate_left
    · simp only [Act.put, List.setIfInBounds_toArray, List.set_cons_zero, List.set_cons_succ]
      rfl
    refine pure_ (i := 3) (N := some 26) (v := ?_) (a' := ?_) #[true, false, true, true, false, false, false, false, false, false, false] rfl rfl (by kernel_rfl) (fun _ _ _ h => h) (Or.inl ⟨by rfl, ?_⟩) ?_ ?_
    rotate_left
    · intro w'
      go_simp
      with_reducible rfl
    rotate_left
    · simp only [Act.put, List.setIfInBounds_toArray, List.set_cons_zero, List.set_cons_succ]
      rfl
    refine pure_ (i := 5) (N := some 28) (v := ?_) (a' := ?_) #[true, false, true, true, false, true, false, false, false, false, false] rfl rfl (by kernel_rfl) (fun _ _ _ h => h) (Or.inl ⟨by rfl, ?_⟩) ?_ ?_
    rotate_left
    · intro w'
      go_simp
      with_reducible rfl
    rotate_left
    · simp only [Act.put, List.setIfInBounds_toArray, List.set_cons_zero, List.set_cons_succ]
      rfl
    refine pure_ (i := 7) (N := some 30) (v := ?_) (a' := ?_) #[true, false, true, true, false, true, false, true, false, false, false] rfl rfl (by kernel_rfl) (fun _ _ _ h => h) (Or.inl ⟨by rfl, ?_⟩) ?_ ?_
    rotate_left
    · intro w'
      go_simp
      with_reducible rfl
    rotate_left
    · simp only [Act.put, List.setIfInBounds_toArray, List.set_cons_zero, List.set_cons_succ]
      rfl
    refine take_ (i := 1) (N := some 24) (v := ?_) (a' := ?_) #[true, true, true, true, false, true, false, true, false, false, false] rfl rfl (by kernel_rfl) (fun _ _ _ h => h) (Or.inl ⟨by rfl, ?_⟩) hHeld ?_ ?_
    rotate_left
    · rintro w' ⟨s0, s1, s2⟩
      go_simp
      with_reducible rfl
    rotate_left
    · simp only [Act.put, List.setIfInBounds_toArray, List.set_cons_zero, List.set_cons_succ]
      rfl
    refine take_ (i := 6) (N := some 29) (v := ?_) (a' := ?_) #[true, true, true, true, false, true, true, true, false, false, false] rfl rfl (by kernel_rfl) (fun _ _ _ h => h) (Or.inl ⟨by rfl, ?_⟩) hHeld ?_ ?_
    rotate_left
    · rintro w' ⟨s0, s1, s2⟩
      go_simp
      with_reducible rfl
    rotate_left
    · simp only [Act.put, List.setIfInBounds_toArray, List.set_cons_zero, List.set_cons_succ]
      rfl
    refine pure_ (i := 8) (N := some 31) (v := ?_) (a' := ?_) #[true, true, true, true, false, true, true, true, true, false, false] rfl rfl (by kernel_rfl) (fun _ _ _ h => h) (Or.inl ⟨by rfl, ?_⟩) ?_ ?_
    rotate_left
    · intro w'
      go_simp
      with_reducible rfl
    rotate_left
    · simp only [Act.put, List.setIfInBounds_toArray, List.set_cons_zero, List.set_cons_succ]
      rfl
    refine take_ (i := 9) (N := some 32) (v := ?_) (a' := ?_) #[true, true, true, true, false, true, true, true, true, true, false] rfl rfl (by kernel_rfl) (fun _ _ _ h => h) (Or.inl ⟨by rfl, ?_⟩) hHeld ?_ ?_
    rotate_left
    · rintro w' ⟨s0, s1, s2⟩
      go_simp
      with_reducible rfl
    rotate_left
    · simp only [Act.put, List.setIfInBounds_toArray, List.set_cons_zero, List.set_cons_succ]
      rfl
    refine one_ (i := 4) (N := some 27) #[true, true, true, true, true, true, true, true, true, true, false] rfl rfl (by kernel_rfl) (by decide) (fun K_ hK => ?_)
    refine goes_ Try.func36 (by kernel_rfl) rfl #[.int .i64 V, .int .i64 (x.1 : Int), .string (pg d P x.1)] (by rfl) rfl rfl (by simp only [List.map_toArray, List.map_cons, List.map_nil]; first | done | rfl) ?_
    refine (image_sum.calls V x.1 (pg d P x.1) _ _ (psum_some V x.1 (pg d P x.1) hvw (page_wf (by omega) (by omega) x.2) (page_small d P x.1 (by omega)))).mono ?_
    rintro e w1 ⟨rfl, hb⟩
    refine ⟨_, rfl, ?_⟩
    have hm1 := blk_below (blk_drew hm) hb
    have he1 := blk_below (blk_drew he) hb
    have hd1 := blk_below (blk_drew hd) hb
    have hs1 := blk_below (blk_drew hs) hb
    have hB1 : Below b2 w w1 := by rw [HGEO.out.1]; exact below_step (below_drew1 hBw) hb
    have hcl1 : w1.cell? ⟨g, off + x.1, none⟩ = some (.string (strAt l x.1)) := (hb.cell (p := ⟨g, off + x.1, none⟩) (cell_lt hclW)).trans hclW
    refine hK.out _ _ ⟨(blk_cell hm1 0).trans rfl, (blk_cell hm1 4).trans rfl, hcl1⟩ (fun hHeld => ?_)
    clear hK K_
    refine norm_ (a' := ?_) ?_ ?_
    rotate_left
    · show Act.put _ (some 27) _ = _
      simp only [Act.put, List.setIfInBounds_toArray, List.set_cons_zero, List.set_cons_succ]
      rfl
    refine pure_ (i := 10) (N := some 33) (v := ?_) (a' := ?_) #[true, true, true, true, true, true, true, true, true, true, true] rfl rfl (by kernel_rfl) (fun _ _ _ h => h) (Or.inl ⟨by rfl, ?_⟩) ?_ ?_
    rotate_left
    · intro w'
      go_simp
      with_reducible rfl
    rotate_left
    · simp only [Act.put, List.setIfInBounds_toArray, List.set_cons_zero, List.set_cons_succ]
      rfl
    refine done_ (by kernel_rfl) ?_
    refine hKK _ _ ?_
    have hk1 : KeepsOthers W w1 := ⟨hb.size, fun j o hj _ => (hb.block j (lt_of_block hj)).trans hj⟩
    by_cases hp : pageOk V P d l x.1 = true
    · have hpb : ((psum V x.1 (pg d P x.1)).toList == (strAt l x.1).toList) = true := hp
      rw [hpb]
      simp only [Bool.not_true]
      gi_wp2
      refine ⟨hk1.from _, ⟨(blk_cell hs1 0).trans (blk_cell hs 0).symm, (blk_cell hd1 0).trans (blk_cell hd 0).symm⟩, ⟨⟨hm1, he1, hd1, hs1, hB1⟩, fun y hy => ?_⟩⟩
      rcases List.mem_append.1 hy with hy | hy
      · exact hall y hy
      · rw [List.mem_singleton.1 hy]
        exact hp
    · have hpf : pageOk V P d l x.1 = false := by simpa using hp
      have hpb : ((psum V x.1 (pg d P x.1)).toList == (strAt l x.1).toList) = false := hpf
      have y0 : w1.cell? ⟨b4, 0, none⟩ = some (.int .i64 0) := (blk_cell he1 0).trans rfl
      have f0 := blk_frozen he1 0
      rw [hpb]
      simp only [Bool.not_false]
      gi_wp2
      have hgeo := HGEO.out
      exact ⟨(hk1.trans (KeepsOthers.setCell _ _ _)).from _, ⟨⟨blk_far (p := ⟨b4, 0, none⟩) hm1 (by show b2 ≠ b4; omega) _, one_setCell he1, blk_far (p := ⟨b4, 0, none⟩) hd1 (by show bd ≠ b4; omega) _, blk_far (p := ⟨b4, 0, none⟩) hs1 (by show bs ≠ b4; omega) _, hB1.setCell (p := ⟨b4, 0, none⟩) (by show b2 ≤ b4; omega) _⟩, x, List.mem_append.2 (Or.inr (List.mem_singleton.2 rfl)), hpf⟩, rfl⟩
  case done =>
    rintro D xs W hD ⟨hx1, hx2⟩ ⟨⟨hm, he, hd, hs, hB⟩, hall⟩ hKd
    have hgeo := HGEO.out
    have hlen : xs.length = l.length := pages_all (by omega) HCC.out xs hx1 hx2 hCN
    have hr : r = 0 := by
      have hq := HH.out
      rw [if_pos] at hq
      · exact (Option.some.inj hq).symm
      · rw [List.all_eq_true]
        intro i hi
        rw [← hlen, ← hx1] at hi
        obtain ⟨y, hy, rfl⟩ := List.mem_map.1 hi
        exact hall y hy
    subst hr
    have HG2 := Lib.hid hgeo
    have hBw : Below w.heap.size w W := by rw [← hgeo.1]; exact hB
    have y0 : W.cell? ⟨b4, 0, none⟩ = some (.int .i64 0) := (blk_cell he 0).trans rfl
    have f0 := blk_frozen he 0
    clear hgeo HH
    gi_wp2
    have hgeo := HG2.out
    have hne : D ≠ b4 := by omega
    have hK5 := heap_set_other (a := ⟨b4, 0, none⟩) hKd hne (.int .i64 0)
    exact leave_int_d rfl (one_setCell he) hne hK5 ⟨rfl, (hBw.setCell (p := ⟨b4, 0, none⟩) (by show w.heap.size ≤ b4; omega) _).trans (belowK_b (w := w) (Nat.le_refl _) _ D _ _ (by omega) hK5 rfl rfl)⟩
  case stop =>
    rintro D cc pre W hD _ ⟨⟨⟨hm, he, hd, hs, hB⟩, x, hx, hbad⟩, rfl⟩ hKd
    have hgeo := HGEO.out
    have hr : r = 20 := by
      have hq := HH.out
      rw [if_neg] at hq
      · exact (Option.some.inj hq).symm
      · rw [List.all_eq_true]
        intro hh
        have := hh x.1 (List.mem_range.2 (hCN _ x.2))
        rw [hbad] at this
        cases this
    subst hr
    have HG2 := Lib.hid hgeo
    have hBw : Below w.heap.size w W := by rw [← hgeo.1]; exact hB
    clear hgeo HH
    gi_wp2
    have hgeo := HG2.out
    have hne : D ≠ b4 := by omega
    exact leave_int_d rfl he hne hKd ⟨rfl, hBw.trans (belowK_b (w := w) (Nat.le_refl _) _ D _ _ (by omega) hKd rfl rfl)⟩

end Go.Proofs.Ytnfcohpljgmaiaa
