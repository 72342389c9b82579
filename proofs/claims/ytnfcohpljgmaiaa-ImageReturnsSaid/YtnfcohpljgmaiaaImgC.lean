/- image.Make -/
import Derived.Test.YtnfcohpljgmaiaaImgB
import Derived.WalkArith
namespace Go.Proofs.Ytnfcohpljgmaiaa
open Go.RowKit Go.Shelf Go.Proofs.YtnfcohpljgmaiaaW.PrintLast Go.Proofs.YtnfcohpljgmaiaaW.PrintWords Go.Proofs.Ytnfcohpljgmaiaa.B
attribute [local go_sem] Oper.semAt_some

theorem infoStr : (Try.prog.info? 9).map (fun i => (i.zero, i.size, i.bytes)) = some (some (.string ⟨#[]⟩), 1, 16) := by kernel_rfl

/-- The digest of page i. -/
def psum (v : Int) (i : Nat) (p : ByteArray) : ByteArray := (image_sum.f v i p).getD ⟨#[]⟩
theorem psum_some (v : Int) (i : Nat) (p : ByteArray) (hv : (Lit.int .i64 v).wf = true) (hi : (Lit.int .i64 (i : Int)).wf = true) (hp : p.size ≤ 1000000) : image_sum.f v i p = some (psum v i p) := by
  have hn : image_number.f [2, v, 2, (i : Int)] = some ⟨(numBytes [2, v, 2, (i : Int)]).toArray⟩ := by
    unfold image_number.f fNumber
    rw [if_pos]
    unfold smallB
    simp only [Bool.and_eq_true, decide_eq_true_eq, List.all_eq_true, List.mem_cons, List.not_mem_nil, or_false]
    refine ⟨⟨by simp, ?_⟩, ?_⟩
    · intro x hx
      have hx' : x < 2 := by simpa using hx
      match x, hx' with
      | 0, _ => simp
      | 1, _ => simp
    · rintro x (rfl | rfl | rfl | rfl)
      · decide
      · exact hv
      · decide
      · exact hi
  have hl : (numBytes [2, v, 2, (i : Int)]).length = 4 := by
    unfold numBytes
    simp [numN, length_be]
  have hsz : ByteArray.size ⟨(numBytes [2, v, 2, (i : Int)]).toArray⟩ = 4 := by
    simp [ByteArray.size, hl]
  unfold psum
  have hh : ByteArray.size ⟨#[112, 97, 103, 101]⟩ = 4 := rfl
  cases h : image_sum.f v i p with
  | some x => rfl
  | none =>
    exfalso
    unfold image_sum.f at h
    rw [hn] at h
    simp only [Option.bind_some] at h
    have e1 : 4 + ByteArray.size ⟨(numBytes [2, v, 2, (i : Int)]).toArray⟩ ≤ 9223372036854775807 := by omega
    have e2 : ((⟨#[112, 97, 103, 101]⟩ : ByteArray) ++ ⟨(numBytes [2, v, 2, (i : Int)]).toArray⟩).size + p.size ≤ 9223372036854775807 := by
      rw [ByteArray.size_append]
      omega
    rw [if_pos e1, if_pos e2] at h
    unfold digest_Sum.f fSum at h
    have e3 : (((⟨#[112, 97, 103, 101]⟩ : ByteArray) ++ ⟨(numBytes [2, v, 2, (i : Int)]).toArray⟩) ++ p).size ≤ 140737488351232 := by
      rw [ByteArray.size_append, ByteArray.size_append]
      omega
    rw [if_pos e3] at h
    cases h

def digs (v : Int) (d : ByteArray) (s : Int) (l : List Nat) : List ByteArray := l.map fun i => psum v i (pg d s i)
def fMake (v : Int) (d : ByteArray) (s k : Int) : Option (Int × Int × Int × Int × List ByteArray × Int) :=
  if okSizes v s k = true then
    if d.size = 0 then some (0, 0, 0, 0, [], 14)
    else if (d.size : Int) > 65536 ∨ cnt d.size s > 64 then some (0, 0, 0, 0, [], 8)
    else some (v, d.size, s, k, digs v d s (List.range (cnt d.size s).toNat), 0)
  else some (0, 0, 0, 0, [], 2)

/-! ### A manifest's cells -/
theorem man_store {W : World} {B : Nat} {c0 c1 c2 c3 c4 : Value} {T : TypeId} {fz : Nat × Nat} (h : W.heap[B]? = some (.cells #[c0, c1, c2, c3, c4] T fz)) (u0 u1 u2 u3 u4 : Value) :
    (((((W.setCell ⟨B, 0, none⟩ u0).setCell ⟨B, 1, none⟩ u1).setCell ⟨B, 2, none⟩ u2).setCell ⟨B, 3, none⟩ u3).setCell ⟨B, 4, none⟩ u4).heap[B]? = some (.cells #[u0, u1, u2, u3, u4] T fz) := by
  have h0 := Lib.heap_setCell_same (i := 0) h u0
  have h1 := Lib.heap_setCell_same (i := 1) h0 u1
  have h2 := Lib.heap_setCell_same (i := 2) h1 u2
  have h3 := Lib.heap_setCell_same (i := 3) h2 u3
  have h4 := Lib.heap_setCell_same (i := 4) h3 u4
  simpa using h4
theorem man_below {W w0 : World} {n B : Nat} (h : Below n w0 W) (hB : n ≤ B) (u0 u1 u2 u3 u4 : Value) :
    Below n w0 (((((W.setCell ⟨B, 0, none⟩ u0).setCell ⟨B, 1, none⟩ u1).setCell ⟨B, 2, none⟩ u2).setCell ⟨B, 3, none⟩ u3).setCell ⟨B, 4, none⟩ u4) :=
  ((((h.setCell (p := ⟨B, 0, none⟩) hB u0).setCell (p := ⟨B, 1, none⟩) hB u1).setCell (p := ⟨B, 2, none⟩) hB u2).setCell (p := ⟨B, 3, none⟩) hB u3).setCell (p := ⟨B, 4, none⟩) hB u4
theorem man_results (tmps : Array Value) {W : World} {B : Nat} {c0 c1 c2 c3 c4 e : Value} {fz : Nat × Nat} (hb : tmps[8]?.getD undef = .pointer (some ⟨B, 0, none⟩)) (he : tmps[9]?.getD undef = e) (h : W.heap[B]? = some (.cells #[c0, c1, c2, c3, c4] 25 fz)) :
    (results Try.f12 tmps).run Try.prog W = .ok (.tuple #[.agg #[c0, c1, c2, c3, c4], e]) W := by
  have z0 : W.cell? ⟨B, 0, none⟩ = some c0 := by rw [cell_of h]; rfl
  have z1 : W.cell? ⟨B, 1, none⟩ = some c1 := by rw [cell_of h]; rfl
  have z2 : W.cell? ⟨B, 2, none⟩ = some c2 := by rw [cell_of h]; rfl
  have z3 : W.cell? ⟨B, 3, none⟩ = some c3 := by rw [cell_of h]; rfl
  have z4 : W.cell? ⟨B, 4, none⟩ = some c4 := by rw [cell_of h]; rfl
  simp [results, Try.f12, go_sem, hb, he, z0, z1, z2, z3, z4]

theorem leave_make {tmps : Array Value} {W : World} {B n : Nat} {c0 c1 c2 c3 c4 e : Value} {fz : Nat × Nat} {R : Ending → World → Prop} (hb : tmps[8]?.getD undef = .pointer (some ⟨B, 0, none⟩)) (he : tmps[9]?.getD undef = e) (h : W.heap[B]? = some (.cells #[c0, c1, c2, c3, c4] 25 fz))
    (hR : R (.returned (.tuple #[.agg #[c0, c1, c2, c3, c4], e])) W) : bodyPostM Fence.wide n Try.prog Try.f12 R .ret { tmps := tmps, defers := [] } W :=
  ⟨_, man_results tmps hb he h, hR⟩

/-- Between two rounds of Make's loop. -/
def MkI (v s k : Int) (d : ByteArray) (n0 b4 b8 b10 bd bs : Nat) (w : World) (pre : List (PgNo d s)) (W : World) : Prop :=
  (∃ vv, W.heap[b10]? = some (.cells #[.int .i64 v, .int .i64 (d.size : Int), .int .i64 s, .int .i64 k, vv] 25 (0, 0)) ∧ Kd.R Kd.string 9 W n0 (fun j => bs < j) vv (digs v d s (pre.map Subtype.val))) ∧
  W.heap[b4]? = some (.cells #[.int .i64 v] 3 (0, 0)) ∧ W.heap[b8]? = some (.cells #[.int .i64 0, .int .i64 0, .int .i64 0, .int .i64 0, .slice none 0 0] 25 (0, 0)) ∧
  W.heap[bd]? = some (.cells #[.string d] 9 (0, 0)) ∧ W.heap[bs]? = some (.cells #[.int .i64 s] 3 (0, 0)) ∧ Below n0 w W

theorem wpIn_gen {F : Fence} {n : Nat} {P : Program} {c : Code} {Q : Exit → Act → World → Prop} {a : Act} {w : World} (I : World → Prop) (h : I w) (hK : ∀ W, I W → c.wpIn F n P Q a W) : c.wpIn F n P Q a w := hK w h
theorem page_lt {n s : Int} {C i : Nat} (hs : 1 ≤ s) (hC : cnt n s = C) (hi : (i : Int) * s < n) : i < C := by
  have h1 : (i : Int) + 1 ≤ (n + s - 1) / s := by
    apply Int.le_ediv_of_mul_le (by omega)
    rw [Int.add_mul]
    omega
  unfold cnt at hC
  omega

theorem page_wf {d : ByteArray} {s : Int} {i : Nat} (hs : 1 ≤ s) (h : (d.size : Int) ≤ 65536) (hi : (i : Int) * s < d.size) : (Lit.int .i64 (i : Int)).wf = true := by
  have h1 : (i : Int) ≤ (i : Int) * s := by
    have := Int.mul_le_mul_of_nonneg_left hs (show (0 : Int) ≤ i by omega)
    omega
  exact Go.WalkArith.wf_i64 ⟨by omega, by omega⟩
theorem pages_all {n s : Int} {d : ByteArray} {C : Nat} (hs : 1 ≤ s) (hC : cnt n s = C) (xs : List (PgNo d s)) (hx1 : xs.map Subtype.val = List.range xs.length) (hx2 : n ≤ (xs.length : Int) * s) (hCN : ∀ i : Nat, (i : Int) * s < d.size → i < C) : xs.length = C := by
  have h1 : xs.length ≤ C := by
    rcases Nat.eq_zero_or_pos xs.length with h0 | h0
    · omega
    · have hm : xs.length - 1 ∈ xs.map Subtype.val := by rw [hx1]; exact List.mem_range.2 (by omega)
      obtain ⟨y, _, hy⟩ := List.mem_map.1 hm
      have := hCN _ y.2
      omega
  have h2 : C ≤ xs.length := by
    rcases Nat.lt_or_ge xs.length C with hlt | hge
    · exfalso
      unfold cnt at hC
      have h3 := Int.ediv_mul_le (n + s - 1) (show s ≠ 0 by omega)
      rw [hC] at h3
      have h4 : ((xs.length : Int) + 1) * s ≤ (C : Int) * s := Int.mul_le_mul_of_nonneg_right (by omega) (by omega)
      rw [Int.add_mul] at h4
      omega
    · exact hge
  omega
theorem page_small (d : ByteArray) (s : Int) (i : Nat) (h : (d.size : Int) ≤ 65536) : (pg d s i).size ≤ 1000000 := by
  unfold pg
  rw [ByteArray.size_extract]
  omega

theorem make_start (w : World) (v : Int) (d : ByteArray) (s k : Int) (mm : Nat) : (fun W : World => Below w.heap.size w W ∧ W.heap.size = w.heap.size + 1 + 1 + 1 + 1 + 1 ∧ W.heap[w.heap.size]? = some (.cells #[.int .i64 v] 3 (0, 0)) ∧ W.heap[w.heap.size + 1]? = some (.cells #[.int .i64 0, .int .i64 0, .int .i64 0, .int .i64 0, .slice none 0 0] 25 (0, 0)) ∧
    W.heap[w.heap.size + 1 + 1]? = some (.cells #[.int .i64 v, .int .i64 (d.size : Int), .int .i64 s, .int .i64 k, .slice none 0 0] 25 (0, 0)) ∧ W.heap[w.heap.size + 1 + 1 + 1]? = some (.cells #[.string d] 9 (0, 0)) ∧ W.heap[w.heap.size + 1 + 1 + 1 + 1]? = some (.cells #[.int .i64 s] 3 (0, 0)))
    ((((((w.alloc (.cells #[.int .i64 v] 3)).alloc (.cells #[.int .i64 0, .int .i64 0, .int .i64 0, .int .i64 0, .slice none 0 0] 25)).drewN mm).alloc (.cells #[.int .i64 v, .int .i64 (d.size : Int), .int .i64 s, .int .i64 k, .slice none 0 0] 25)).alloc (.cells #[.string d] 9)).alloc (.cells #[.int .i64 s] 3)) := by
  generalize hX : Obj.cells #[.int .i64 v] 3 = X
  generalize hZ : Obj.cells #[.int .i64 0, .int .i64 0, .int .i64 0, .int .i64 0, .slice none 0 0] 25 = Z
  generalize hM : Obj.cells #[.int .i64 v, .int .i64 (d.size : Int), .int .i64 s, .int .i64 k, .slice none 0 0] 25 = M
  generalize hD : Obj.cells #[.string d] 9 = Dd
  generalize hS : Obj.cells #[.int .i64 s] 3 = Ss
  have s2 : (((w.alloc X).alloc Z).drewN mm).heap.size = w.heap.size + 1 + 1 := by
    show ((w.alloc X).alloc Z).heap.size = _
    rw [World.size_alloc, World.size_alloc]
  have b2 := pw_below_drewN (((Below.refl w.heap.size w).alloc (Nat.le_refl _) X).alloc (by simp) Z) mm
  have e2 : (((w.alloc X).alloc Z).drewN mm).heap[w.heap.size + 1]? = some Z := by
    have h := heap_new (w.alloc X) Z
    rw [World.size_alloc] at h
    exact blk_drewN h mm
  have e1 : (((w.alloc X).alloc Z).drewN mm).heap[w.heap.size]? = some X := blk_drewN (blk_alloc (heap_new w X) Z) mm
  generalize ((w.alloc X).alloc Z).drewN mm = U at s2 b2 e1 e2 ⊢
  have e3 := heap_new U M
  have e4 := heap_new (U.alloc M) Dd
  have e5 := heap_new ((U.alloc M).alloc Dd) Ss
  simp only [World.size_alloc, s2] at e3 e4 e5
  exact ⟨((b2.alloc (by omega) M).alloc (by simp; omega) Dd).alloc (by simp; omega) Ss, by simp only [World.size_alloc, s2], blk_alloc (blk_alloc (blk_alloc e1 M) Dd) Ss, blk_alloc (blk_alloc (blk_alloc e2 M) Dd) Ss, blk_alloc (blk_alloc e3 Dd) Ss, blk_alloc e4 Ss, e5⟩
theorem own_not_def {W : World} {base e : Nat} {ok : Nat → Prop} {v : Value} {l : List ByteArray} {D j : Nat} {x : Option (List Deferred)} (h : Kd.R Kd.string e W base ok v l) (hD : W.heap[D]? = some (.deferred x)) (hj : some D = some j) (ej : some j = v.ownBlock) : False := by
  cases hj
  obtain ⟨inner, ho⟩ := Kd.R_own h
  obtain ⟨cells, hc⟩ := own_typed ho D ej.symm
  rw [hD] at hc
  cases hc
theorem leave_make_d {tmps : Array Value} {W : World} {B D n : Nat} {c0 c1 c2 c3 c4 e : Value} {fz : Nat × Nat} {R : Ending → World → Prop} (hb : tmps[8]?.getD undef = .pointer (some ⟨B, 0, none⟩)) (he : tmps[9]?.getD undef = e) (h : W.heap[B]? = some (.cells #[c0, c1, c2, c3, c4] 25 fz)) (hne : D ≠ B)
    (hK : W.heap[D]? = some (.deferred (some []))) (hR : R (.returned (.tuple #[.agg #[c0, c1, c2, c3, c4], e])) (W.putObj D (.deferred none))) : bodyPostM Fence.wide n Try.prog Try.f12 R .ret { tmps := tmps, defers := [{ target := .collected D, args := #[] }] } W :=
  ⟨by simp, .inl ⟨_, _, rfl, run_takeDeferred hK, ⟨_, man_results tmps hb he ((World.putObj_heap_other (fun e => hne e.symm)).trans h), hR⟩⟩⟩

set_option maxRecDepth 100000 in
set_option maxHeartbeats 4000000 in
theorem make_any (v : Int) (d : ByteArray) (s k : Int) (r1 r2 r3 r4 : Int) (r5 : List ByteArray) (r6 : Int) (w : World) (h : fMake v d s k = some (r1, r2, r3, r4, r5, r6)) :
    Calls Try.prog 12 #[.int .i64 v, .string d, .int .i64 s, .int .i64 k] w fun e w' => ∃ v4_ : Value, e = .returned (.tuple #[.agg #[.int .i64 r1, .int .i64 r2, .int .i64 r3, .int .i64 r4, v4_], .int .i64 r6]) ∧ Kd.R Kd.string 9 w' w.heap.size (fun _ => True) v4_ r5 ∧ Below w.heap.size w w' := by
  refine (callsIn_wide (n := 6)).1 ?_
  refine callsIn_of_wp_marks Try.func12 rfl trivial ?_ rfl
  simp only [Try.ntmps12, List.size_toArray, List.length_cons, List.length_nil, Nat.reduceAdd, Nat.reduceSub, Array.replicate_succ, Array.replicate_zero, List.push_toArray, List.append_toArray, List.nil_append, List.cons_append]
  unfold fMake at h
  have hS : ∀ W, CallsIn Fence.wide 5 Try.prog 33 #[.int .i64 v, .int .i64 s, .int .i64 k] W (fun e w' => e = .returned (.bool (okSizes v s k)) ∧ Drawn0 W w') := fun W => callsIn_wide.2 (image_sizes.calls v s k _ W (sizes_eq v s k))
  by_cases hok : okSizes v s k = true
  rotate_left
  · rw [if_neg hok] at h
    have hf : okSizes v s k = false := by simpa using hok
    rw [hf] at hS
    cases h
    gi_wp2_with (refine ⟨trivial, ?_⟩; gi_at_call 33; refine (hS _).mono ?_; rintro e w' ⟨rfl, ⟨m, rfl⟩⟩)
    have hm := blk_drewN (heap_new (w.alloc (.cells #[.int .i64 v] 3)) (.cells #[.int .i64 0, .int .i64 0, .int .i64 0, .int .i64 0, .slice none 0 0] 25)) m
    rw [World.size_alloc] at hm
    have hbl := pw_below_drewN (((Below.refl w.heap.size w).alloc (Nat.le_refl _) (.cells #[.int .i64 v] 3)).alloc (by simp) (.cells #[.int .i64 0, .int .i64 0, .int .i64 0, .int .i64 0, .slice none 0 0] 25)) m
    exact leave_make rfl rfl (man_store hm _ _ _ _ _) ⟨_, rfl, Kd.R_nil _ _ _ _ _, man_below hbl (by omega) _ _ _ _ _⟩
  rw [if_pos hok] at h
  have hfa := okSizes_facts hok
  have hv : (Lit.int .i64 v).wf = true := Go.WalkArith.wf_i64 ⟨by omega, by omega⟩
  rw [hok] at hS
  by_cases hd0 : d.size = 0
  · rw [if_pos hd0] at h
    have hde : d = ⟨#[]⟩ := by
      apply ByteArray.ext
      exact Array.eq_empty_of_size_eq_zero hd0
    subst hde
    cases h
    gi_wp2_with (refine ⟨trivial, ?_⟩; gi_at_call 33; refine (hS _).mono ?_; rintro e w' ⟨rfl, ⟨m, rfl⟩⟩)
    have hm := blk_drewN (heap_new (w.alloc (.cells #[.int .i64 v] 3)) (.cells #[.int .i64 0, .int .i64 0, .int .i64 0, .int .i64 0, .slice none 0 0] 25)) m
    rw [World.size_alloc] at hm
    have hbl := pw_below_drewN (((Below.refl w.heap.size w).alloc (Nat.le_refl _) (.cells #[.int .i64 v] 3)).alloc (by simp) (.cells #[.int .i64 0, .int .i64 0, .int .i64 0, .int .i64 0, .slice none 0 0] 25)) m
    exact leave_make rfl rfl (man_store hm _ _ _ _ _) ⟨_, rfl, Kd.R_nil _ _ _ _ _, man_below hbl (by omega) _ _ _ _ _⟩
  rw [if_neg hd0] at h
  have hdne : d.toList.isEmpty = false := nonempty_of d hd0
  have hN : (d.size : Int) ≤ 65536 → ∀ W, CallsIn Fence.wide 5 Try.prog 34 #[.int .i64 (d.size : Int), .int .i64 s] W (fun e w' => e = .returned (.int .i64 (cnt d.size s)) ∧ Drawn0 W w') := fun hl W => callsIn_wide.2 (image_count.calls _ s _ W (count_eq _ s (by omega) (by omega) (by omega) (by omega)))
  by_cases hbig : (d.size : Int) > 65536
  · rw [if_pos (Or.inl hbig)] at h
    clear hN
    cases h
    gi_wp2_with first | (refine ⟨trivial, ?_⟩; gi_at_call 33; refine (hS _).mono ?_; rintro e w' ⟨rfl, ⟨m, rfl⟩⟩) | (show Fence.wide.fn 34 ∧ _; refine ⟨trivial, ?_⟩)
    have hm := blk_drewN (heap_new (w.alloc (.cells #[.int .i64 v] 3)) (.cells #[.int .i64 0, .int .i64 0, .int .i64 0, .int .i64 0, .slice none 0 0] 25)) m
    rw [World.size_alloc] at hm
    have hbl := pw_below_drewN (((Below.refl w.heap.size w).alloc (Nat.le_refl _) (.cells #[.int .i64 v] 3)).alloc (by simp) (.cells #[.int .i64 0, .int .i64 0, .int .i64 0, .int .i64 0, .slice none 0 0] 25)) m
    exact leave_make rfl rfl (man_store hm _ _ _ _ _) ⟨_, rfl, Kd.R_nil _ _ _ _ _, man_below hbl (by omega) _ _ _ _ _⟩
  replace hN := hN (by omega)
  by_cases hbig2 : cnt d.size s > 64
  · rw [if_pos (Or.inr hbig2)] at h
    cases h
    gi_wp2_with first | (refine ⟨trivial, ?_⟩; gi_at_call 33; refine (hS _).mono ?_; rintro e w' ⟨rfl, ⟨m, rfl⟩⟩) | (refine ⟨trivial, ?_⟩; gi_at_call 34; refine (hN _).mono ?_; rintro e w' ⟨rfl, ⟨m2, rfl⟩⟩)
    have hm := blk_drewN (heap_new (w.alloc (.cells #[.int .i64 v] 3)) (.cells #[.int .i64 0, .int .i64 0, .int .i64 0, .int .i64 0, .slice none 0 0] 25)) (m + m2)
    rw [World.size_alloc] at hm
    have hbl := pw_below_drewN (((Below.refl w.heap.size w).alloc (Nat.le_refl _) (.cells #[.int .i64 v] 3)).alloc (by simp) (.cells #[.int .i64 0, .int .i64 0, .int .i64 0, .int .i64 0, .slice none 0 0] 25)) (m + m2)
    exact leave_make rfl rfl (man_store hm _ _ _ _ _) ⟨_, rfl, Kd.R_nil _ _ _ _ _, man_below hbl (by omega) _ _ _ _ _⟩
  rw [if_neg (by omega)] at h
  obtain ⟨C, hC⟩ : ∃ C : Nat, cnt d.size s = C := ⟨(cnt d.size s).toNat, by have : 0 ≤ cnt d.size s := Int.ediv_nonneg (by omega) (by omega); omega⟩
  rw [hC] at hN h hbig2
  gi_wp2_with first | (refine ⟨trivial, ?_⟩; gi_at_call 33; refine (hS _).mono ?_; rintro e w' ⟨rfl, ⟨m, rfl⟩⟩) | (refine ⟨trivial, ?_⟩; gi_at_call 34; refine (hN _).mono ?_; rintro e w' ⟨rfl, ⟨m2, rfl⟩⟩) | (refine ⟨trivial, ?_⟩; gi_at_call 35; refine (pages_in _ _ trivial rfl _ _ _).mono ?_; rintro e w' ⟨rfl, rfl⟩)
  have hCN : ∀ i : Nat, (i : Int) * s < d.size → i < C := fun i hi => page_lt (by omega) hC hi
  refine wpIn_gen (fun W => Below w.heap.size w W ∧ W.heap.size = w.heap.size + 1 + 1 + 1 + 1 + 1 ∧ W.heap[w.heap.size]? = some (.cells #[.int .i64 v] 3 (0, 0)) ∧ W.heap[w.heap.size + 1]? = some (.cells #[.int .i64 0, .int .i64 0, .int .i64 0, .int .i64 0, .slice none 0 0] 25 (0, 0)) ∧
    W.heap[w.heap.size + 1 + 1]? = some (.cells #[.int .i64 v, .int .i64 (d.size : Int), .int .i64 s, .int .i64 k, .slice none 0 0] 25 (0, 0)) ∧ W.heap[w.heap.size + 1 + 1 + 1]? = some (.cells #[.string d] 9 (0, 0)) ∧ W.heap[w.heap.size + 1 + 1 + 1 + 1]? = some (.cells #[.int .i64 s] 3 (0, 0))) ?_ ?_
  · exact make_start w v d s k (m + m2)
  rintro W0 ⟨hB0, hsz0, g4, g8, g10, gd, gs⟩
  obtain ⟨b4, hb4⟩ : ∃ b, b = w.heap.size := ⟨_, rfl⟩
  obtain ⟨b8, hb8⟩ : ∃ b, b = w.heap.size + 1 := ⟨_, rfl⟩
  obtain ⟨b10, hb10⟩ : ∃ b, b = w.heap.size + 1 + 1 := ⟨_, rfl⟩
  obtain ⟨bd, hbd⟩ : ∃ b, b = w.heap.size + 1 + 1 + 1 := ⟨_, rfl⟩
  obtain ⟨bs, hbs⟩ : ∃ b, b = w.heap.size + 1 + 1 + 1 + 1 := ⟨_, rfl⟩
  simp only [← hbs] at gs ⊢
  simp only [← hbd] at gd ⊢
  simp only [← hb10] at g10 ⊢
  simp only [← hb8] at g8 ⊢
  simp only [← hb4] at g4 ⊢
  have hgeo : (b4 = w.heap.size ∧ b8 = b4 + 1 ∧ b10 = b4 + 2 ∧ bd = b4 + 3 ∧ bs = b4 + 4 ∧ W0.heap.size = b4 + 5) := by omega
  have HGEO := Lib.hid hgeo
  clear hb4 hb8 hb10 hbd hbs hsz0 hgeo
  have hz0 : bs < W0.heap.size := lt_of_block gs
  have hz1 : bd < W0.heap.size := lt_of_block gd
  refine wpIn_rangeFunc_ownG (n := 6) rfl (by omega) (gf := 55) (lb := #[.pointer (some ⟨bs, 0, none⟩), .pointer (some ⟨bd, 0, none⟩)]) rfl trivial (enters_of Try.func55 (by kernel_rfl) rfl)
    (pages_stops Fence.wide 5 trivial rfl (by omega) bs bd d s (by omega) (by omega) W0 hz0 hz1 (by rw [cell_of gs]; rfl) (by rw [cell_of gd]; rfl) C hCN) keepsBoxes_t (keepsBoxes_b hz0 hz1) (Below.refl _ _) (fun _ => rfl)
    (MkI v s k d b4 b4 b8 b10 bd bs w) (fun _ _ _ => False) ?own (fun _ _ _ _ _ hs _ _ => hs) ?start
    (fun x => { tmps := #[(.int .i64 v), (.string d), (.int .i64 s), (.int .i64 k), (.pointer (some ⟨b4, 0, none⟩)), undef, undef, undef, (.pointer (some ⟨b8, 0, none⟩)), (.int .i64 0), (.pointer (some ⟨b10, 0, none⟩)), (.int .i64 (x.1 : Int)), (.string (pg d s x.1)), (.bool false), (.int .i64 v), (.int .i64 s), (.int .i64 k), (.bool true), (.bool false), undef, (.bool false), (.string d), (.bool false), undef, (.bool (decide (65536 < (d.size : Int)) || decide (64 < (C : Int)))), (.string d), (.int .i64 (d.size : Int)), (.bool (decide (65536 < (d.size : Int)))), (.bool (decide (65536 < (d.size : Int)))), (.string d), (.int .i64 (d.size : Int)), (.int .i64 s), (.int .i64 (C : Int)), (.bool (decide (64 < (C : Int)))), (.bool (decide (65536 < (d.size : Int)) || decide (64 < (C : Int)))), undef, (.int .i64 v), (.string d), (.int .i64 (d.size : Int)), (.int .i64 s), (.int .i64 k), (.agg #[.int .i64 v, .int .i64 (d.size : Int), .int .i64 s, .int .i64 k, .slice none 0 0]), (.string d), (.int .i64 s), (.func (.func 55) #[] #[.pointer (some ⟨bs, 0, none⟩), .pointer (some ⟨bd, 0, none⟩)]), (.int .i64 (x.1 : Int)), (.string (pg d s x.1)), undef, undef, undef, undef, undef, undef, undef, undef, undef, undef], defers := [] }) ?assign ?body ?done ?stop
  case own =>
    rintro pre X Y row ⟨⟨vv, hm, hrow⟩, h4, h8, hd, hs, hB⟩ hg hr
    have hne : ∀ {g : Nat} {cs : Array Value} {t : TypeId}, X.heap[g]? = some (.cells cs t (0, 0)) → some g ≠ row := fun h e => by
      obtain ⟨_, o, ho, hc⟩ := hr _ e.symm
      rw [h] at ho
      cases ho
      cases hc
    have hgeo := HGEO.out
    refine ⟨⟨vv, blk_grown hm hg (hne hm), Kd.R_grown2 hrow rfl hg (fun j hj e => ?_)⟩, blk_grown h4 hg (hne h4), blk_grown h8 hg (hne h8), blk_grown hd hg (hne hd), blk_grown hs hg (hne hs), hB.grown hg (by have := blk_lt h4; omega) (fun j e => by have := (hr j e).1; omega)⟩
    obtain ⟨inner, ho⟩ := Kd.R_own hrow
    obtain ⟨cells, hc⟩ := own_typed ho j e.symm
    exact hne hc hj.symm
  case start => exact ⟨⟨_, g10, Kd.R_nil _ _ _ _ _⟩, g4, g8, gd, gs, by rw [HGEO.out.1]; exact hB0⟩
  case assign =>
    intro l x W K hK
    gi_wp2
    exact hK
  case body =>
    rintro l pre x W ⟨⟨vv, hm, hrow⟩, h4, h8, hd, hs, hB⟩ hlt
    have hBw : Below w.heap.size w W := by rw [← HGEO.out.1]; exact hB
    have hwl : w.heap.size ≤ W.heap.size := hB.size
    refine wpIn_block ?_
    refine startIn_ (n := 10) (S := fun w' => w'.cell? ⟨b10, 4, none⟩ = some vv ∧ w'.cell? ⟨b4, 0, none⟩ = some (.int .i64 v)) (ds := [9]) #[false, false, false, false, false, false, false, false, false, false] (by kernel_rfl) (by kernel_rfl) (by rintro ⟨a, w, h⟩; exact h) rfl rfl ⟨(blk_cell (blk_drew hm) 4).trans rfl, (blk_cell (blk_drew h4) 0).trans rfl⟩ (fun hHeld => ?_)
    refine pure_ (i := 0) (N := some 47) (v := ?_) (a' := ?_) #[true, false, false, false, false, false, false, false, false, false] rfl rfl (by kernel_rfl) (fun _ _ _ h => h) (Or.inl ⟨by rfl, ?_⟩) ?_ ?_
    rotate_left
    · intro w'
      go_simp
      with_reducible rfl
    rotate_left
    · simp only [Act.put, List.setIfInBounds_toArray, List.set_cons_zero, List.set_cons_succ]
      rfl
    refine pure_ (i := 3) (N := some 50) (v := ?_) (a' := ?_) #[true, false, false, true, false, false, false, false, false, false] rfl rfl (by kernel_rfl) (fun _ _ _ h => h) (Or.inl ⟨by rfl, ?_⟩) ?_ ?_
    rotate_left
    · intro w'
      go_simp
      with_reducible rfl
    rotate_left
    · simp only [Act.put, List.setIfInBounds_toArray, List.set_cons_zero, List.set_cons_succ]
      rfl
    refine pure_ (i := 4) (N := some 51) (v := ?_) (a' := ?_) #[true, false, false, true, true, false, false, false, false, false] rfl rfl (by kernel_rfl) (fun _ _ _ h => h) (Or.inl ⟨by rfl, ?_⟩) ?_ ?_
    rotate_left
    · intro w'
      go_simp
      with_reducible rfl
    rotate_left
    · simp only [Act.put, List.setIfInBounds_toArray, List.set_cons_zero, List.set_cons_succ]
      rfl
    refine take_ (i := 1) (N := some 48) (v := ?_) (a' := ?_) #[true, true, false, true, true, false, false, false, false, false] rfl rfl (by kernel_rfl) (fun _ _ _ h => h) (Or.inl ⟨by rfl, ?_⟩) hHeld ?_ ?_
    rotate_left
    · rintro w' ⟨s0, s1⟩
      go_simp
      with_reducible rfl
    rotate_left
    · simp only [Act.put, List.setIfInBounds_toArray, List.set_cons_zero, List.set_cons_succ]
      rfl
    refine take_ (i := 2) (N := some 49) (v := ?_) (a' := ?_) #[true, true, true, true, true, false, false, false, false, false] rfl rfl (by kernel_rfl) (fun _ _ _ h => h) (Or.inl ⟨by rfl, ?_⟩) hHeld ?_ ?_
    rotate_left
    · rintro w' ⟨s0, s1⟩
      go_simp
      with_reducible rfl
    rotate_left
    · simp only [Act.put, List.setIfInBounds_toArray, List.set_cons_zero, List.set_cons_succ]
      rfl
    refine one_ (i := 5) (N := some 52) #[true, true, true, true, true, true, false, false, false, false] rfl rfl (by kernel_rfl) (by decide) (fun K hK => ?_)
    refine goes_ Try.func36 (by kernel_rfl) rfl #[.int .i64 v, .int .i64 (x.1 : Int), .string (pg d s x.1)] (by rfl) rfl rfl (by simp only [List.map_toArray, List.map_cons, List.map_nil]; first | done | rfl) ?_
    refine (image_sum.calls v x.1 (pg d s x.1) _ _ (psum_some v x.1 (pg d s x.1) hv (page_wf (by omega) hbig x.2) (page_small d s x.1 hbig))).mono ?_
    rintro e w1 ⟨rfl, hb⟩
    refine ⟨_, rfl, ?_⟩
    have hrow1 := Kd.R_below (Kd.R_drew hrow) hb
    have hm1 := blk_below (blk_drew hm) hb
    have h41 := blk_below (blk_drew h4) hb
    have h81 := blk_below (blk_drew h8) hb
    have hd1 := blk_below (blk_drew hd) hb
    have hs1 := blk_below (blk_drew hs) hb
    have hB1 : Below b4 w w1 := by rw [HGEO.out.1]; exact below_step (below_drew1 hBw) hb
    have hw1 : w.heap.size ≤ w1.heap.size := hB1.size
    refine hK.out _ _ ⟨(blk_cell hm1 4).trans rfl, (blk_cell h41 0).trans rfl⟩ (fun hHeld => ?_)
    clear hK K
    refine norm_ (a' := ?_) ?_ ?_
    rotate_left
    · show Act.put _ (some 52) _ = _
      simp only [Act.put, List.setIfInBounds_toArray, List.set_cons_zero, List.set_cons_succ]
      rfl
    refine one_ (i := 6) (N := some 53) #[true, true, true, true, true, true, true, false, false, false] rfl rfl (by kernel_rfl) (by decide) (fun K hK => ?_)
    refine value_ (w1 := ?_) (v := ?_) (by rfl) rfl ?_ ?_
    rotate_left 2
    · go_simp
      constructor
      · rfl
      · rfl
    refine hK.out _ _ ⟨(blk_cell (blk_alloc hm1 _) 4).trans rfl, (blk_cell (blk_alloc h41 _) 0).trans rfl⟩ (fun hHeld => ?_)
    clear hK K
    refine norm_ (a' := ?_) ?_ ?_
    rotate_left
    · show Act.put _ (some 53) _ = _
      simp only [Act.put, List.setIfInBounds_toArray, List.set_cons_zero, List.set_cons_succ]
      rfl
    refine one_ (i := 7) (N := some 54) #[true, true, true, true, true, true, true, true, false, false] rfl rfl (by kernel_rfl) (by decide) (fun K hK => ?_)
    refine Kd.R_append_step Kd.string (w0 := w) b4 (by rfl) (.tmp 48) (.tmp 53) 23 9 (.string ⟨#[]⟩) 16 rfl Try.underlying23 infoStr rfl (by decide) (by omega) vv _ (psum v x.1 (pg d s x.1)) [.string (psum v x.1 (pg d s x.1))] (fun j => bs < j) (fun _ => False) rfl rfl rfl (fun _ hk => hk.elim) (fun j hj => by have := blk_lt hs1; omega) hrow1 hB1 (by have := HGEO.out; omega) ?_ ?_
    · have hl : (digs v d s (pre.map Subtype.val)).length = pre.length := by simp [digs]
      rw [hl]
      omega
    intro v1 w2 hrow2 hB2 hg2 hat
    have edig : digs v d s ((pre ++ [x]).map Subtype.val) = digs v d s (pre.map Subtype.val) ++ [psum v x.1 (pg d s x.1)] := by simp [digs]
    rw [← edig] at hrow2
    obtain ⟨LL, hLL⟩ : ∃ LL, LL = digs v d s ((pre ++ [x]).map Subtype.val) := ⟨_, rfl⟩
    rw [← hLL] at hrow2
    have HLL := Lib.hid hLL
    clear hLL edig
    obtain ⟨A1, c1, hv1⟩ := Kd.R_slice hrow2
    have ne10 := Kd.R_ne hrow1 hm1 (by decide)
    have ne4 := Kd.R_ne hrow1 h41 (by decide)
    have ne8 := Kd.R_ne hrow1 h81 (by decide)
    have ned : some bd ≠ vv.ownBlock := fun e => by have := hrow1.1 bd e.symm; have := HGEO.out; omega
    have nes := Kd.R_ne hrow1 hs1 (by decide)
    have hm2 := blk_grown hm1 hg2 ne10
    have h42 := blk_grown h41 hg2 ne4
    have h82 := blk_grown h81 hg2 ne8
    have hs2 := blk_grown hs1 hg2 nes
    have hd2 := blk_grown hd1 hg2 ned
    subst hv1
    refine hK.out _ _ ⟨(blk_cell hm2 4).trans rfl, (blk_cell h42 0).trans rfl⟩ (fun hHeld => ?_)
    clear hK K
    refine norm_ (a' := ?_) ?_ ?_
    rotate_left
    · show Act.put _ (some 54) _ = _
      simp only [Act.put, List.setIfInBounds_toArray, List.set_cons_zero, List.set_cons_succ]
      rfl
    refine pure_ (i := 8) (N := some 55) (v := ?_) (a' := ?_) #[true, true, true, true, true, true, true, true, true, false] rfl rfl (by kernel_rfl) (fun _ _ _ h => h) (Or.inl ⟨by rfl, ?_⟩) ?_ ?_
    rotate_left
    · intro w'
      go_simp
      with_reducible rfl
    rotate_left
    · simp only [Act.put, List.setIfInBounds_toArray, List.set_cons_zero, List.set_cons_succ]
      rfl
    refine last_ (i := 9) (N := none) #[true, true, true, true, true, true, true, true, true, true] rfl rfl (by kernel_rfl) (by decide) (fun K hK => ?_)
    have hsc : w2.cell? ⟨b10, 4, none⟩ = some vv := (blk_cell hm2 4).trans rfl
    have hfs := blk_frozen hm2 4
    refine skip_ (w1 := ?_) (by rfl) rfl ?_ ?_
    rotate_left
    · go_simp
      rfl
    refine hK.out _ _ ?_
    clear hK K
    refine done_ (by kernel_rfl) ?_
    have hgeo := HGEO.out
    have h43 := blk_far (p := ⟨b10, 4, none⟩) h42 (by show b4 ≠ b10; omega) (.slice A1 LL.length c1)
    have h83 := blk_far (p := ⟨b10, 4, none⟩) h82 (by show b8 ≠ b10; omega) (.slice A1 LL.length c1)
    have hd3 := blk_far (p := ⟨b10, 4, none⟩) hd2 (by show bd ≠ b10; omega) (.slice A1 LL.length c1)
    have hs3 := blk_far (p := ⟨b10, 4, none⟩) hs2 (by show bs ≠ b10; omega) (.slice A1 LL.length c1)
    have hm3 := blk_put hm2 4 (.slice A1 LL.length c1) rfl
    have hrow3 := Kd.R_grown2 hrow2 rfl (Lib.grownBy_setCell w2 b10 4 (.slice A1 LL.length c1)) (fun j hj => by cases hj; exact Kd.R_ne hrow2 hm2 (by decide))
    have hk1 : KeepsOthers W w1 := ⟨hb.size, fun j o hj _ => (hb.block j (lt_of_block hj)).trans hj⟩
    refine ⟨((hk1.trans (KeepsOthers.of_grownBy hg2 fun j o ej hj => ?_)).trans (KeepsOthers.setCell _ _ _)).from _, ⟨(blk_cell hs3 0).trans (blk_cell hs 0).symm, (blk_cell hd3 0).trans (blk_cell hd 0).symm⟩, ⟨⟨_, hm3, by rw [← HLL.out]; exact hrow3⟩, h43, h83, hd3, hs3, hB2.setCell (p := ⟨b10, 4, none⟩) (by show b4 ≤ b10; omega) _⟩⟩
    obtain ⟨inner, ho⟩ := Kd.R_own hrow1
    obtain ⟨cells, hc⟩ := own_typed ho j ej
    rw [hc] at hj
    cases hj
    rfl
  case done =>
    rintro D xs W hD ⟨hx1, hx2⟩ ⟨⟨vv, hm, hrow⟩, h4, h8, hd, hs, hB⟩ hK
    have hgeo := HGEO.out
    have hlen : xs.length = C := pages_all (by omega) hC xs hx1 hx2 hCN
    rw [hx1, hlen] at hrow
    cases h
    obtain ⟨A1, c1, rfl⟩ := Kd.R_slice hrow
    have z0 : W.cell? ⟨b10, 0, none⟩ = some (.int .i64 v) := (blk_cell hm 0).trans rfl
    have z1 : W.cell? ⟨b10, 1, none⟩ = some (.int .i64 (d.size : Int)) := (blk_cell hm 1).trans rfl
    have z2 : W.cell? ⟨b10, 2, none⟩ = some (.int .i64 s) := (blk_cell hm 2).trans rfl
    have z3 : W.cell? ⟨b10, 3, none⟩ = some (.int .i64 k) := (blk_cell hm 3).trans rfl
    have z4 : W.cell? ⟨b10, 4, none⟩ = some (.slice A1 (digs v d s (List.range C)).length c1) := (blk_cell hm 4).trans rfl
    have y0 : W.cell? ⟨b8, 0, none⟩ = some (.int .i64 0) := (blk_cell h8 0).trans rfl
    have y1 : W.cell? ⟨b8, 1, none⟩ = some (.int .i64 0) := (blk_cell h8 1).trans rfl
    have y2 : W.cell? ⟨b8, 2, none⟩ = some (.int .i64 0) := (blk_cell h8 2).trans rfl
    have y3 : W.cell? ⟨b8, 3, none⟩ = some (.int .i64 0) := (blk_cell h8 3).trans rfl
    have y4 : W.cell? ⟨b8, 4, none⟩ = some (.slice none 0 0) := (blk_cell h8 4).trans rfl
    have f0 := blk_frozen h8 0
    have f1 := blk_frozen h8 1
    have f2 := blk_frozen h8 2
    have f3 := blk_frozen h8 3
    have f4 := blk_frozen h8 4
    have HH := Lib.hid hgeo
    clear hgeo
    gi_wp2
    have hgeo := HH.out
    have hm5 := man_store h8 (.int .i64 v) (.int .i64 (d.size : Int)) (.int .i64 s) (.int .i64 k) (.slice A1 (digs v d s (List.range C)).length c1)
    have hBw : Below w.heap.size w W := by rw [← HGEO.out.1]; exact hB
    have hB5 := man_below hBw (show w.heap.size ≤ b8 by omega) (.int .i64 v) (.int .i64 (d.size : Int)) (.int .i64 s) (.int .i64 k) (.slice A1 (digs v d s (List.range C)).length c1)
    have hne : D ≠ b8 := by have := blk_lt g8; omega
    have hK5 : (((((W.setCell ⟨b8, 0, none⟩ (.int .i64 v)).setCell ⟨b8, 1, none⟩ (.int .i64 (d.size : Int))).setCell ⟨b8, 2, none⟩ (.int .i64 s)).setCell ⟨b8, 3, none⟩ (.int .i64 k)).setCell ⟨b8, 4, none⟩ (.slice A1 (digs v d s (List.range C)).length c1)).heap[D]? = some (.deferred (some [])) :=
      heap_set_other (heap_set_other (heap_set_other (heap_set_other (heap_set_other hK hne _) hne _) hne _) hne _) hne _
    have hrow5 : Kd.R Kd.string 9 (((((W.setCell ⟨b8, 0, none⟩ (.int .i64 v)).setCell ⟨b8, 1, none⟩ (.int .i64 (d.size : Int))).setCell ⟨b8, 2, none⟩ (.int .i64 s)).setCell ⟨b8, 3, none⟩ (.int .i64 k)).setCell ⟨b8, 4, none⟩ (.slice A1 (digs v d s (List.range C)).length c1)) b4 (fun j => bs < j) (.slice A1 (digs v d s (List.range C)).length c1) (digs v d s (List.range C)) :=
      Kd.R_far (Kd.R_far (Kd.R_far (Kd.R_far (Kd.R_far hrow (p := ⟨b8, 0, none⟩) (fun j hj => by show j ≠ b8; omega) _) (p := ⟨b8, 1, none⟩) (fun j hj => by show j ≠ b8; omega) _) (p := ⟨b8, 2, none⟩) (fun j hj => by show j ≠ b8; omega) _) (p := ⟨b8, 3, none⟩) (fun j hj => by show j ≠ b8; omega) _) (p := ⟨b8, 4, none⟩) (fun j hj => by show j ≠ b8; omega) _
    exact leave_make_d rfl rfl hm5 hne hK5 ⟨_, rfl, by have := hgeo.1; rw [← this]; exact Kd.R_mono (Kd.R_grown2 hrow5 rfl (grownBy_putObj' _ D (.deferred none)) (fun j hj e => own_not_def hrow5 hK5 hj e)) (fun _ _ => trivial), hB5.trans (belowK_b (w := w) (Nat.le_refl _) _ D _ _ (by omega) hK5 rfl rfl)⟩
  case stop =>
    rintro D c pre W _ _ h _
    exact h.elim

end Go.Proofs.Ytnfcohpljgmaiaa
