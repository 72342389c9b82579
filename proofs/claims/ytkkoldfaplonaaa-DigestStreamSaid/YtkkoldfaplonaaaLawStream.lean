/- The walk of the law DigestStream. -/
import Derived.Test.YtkkoldfaplonaaaHs
import Derived.Test.YtkkoldfaplonaaaOpen
namespace Go.Proofs.Ytkkoldfaplonaaa
open Go.RowKit Go.Proofs.YtkkoldfaplonaaaW.PrintWords

def callAt (cs : List (List ByteArray)) (j : Nat) : List ByteArray := cs.getD j []
def flatC (cs : List (List ByteArray)) : List UInt8 := cs.flatMap flat
theorem take_snocC (cs : List (List ByteArray)) (j : Nat) (h : j < cs.length) : flatC (cs.take (j + 1)) = flatC (cs.take j) ++ flat (callAt cs j) := by
  unfold flatC callAt
  rw [List.take_add_one, List.flatMap_append, List.getD_eq_getElem?_getD, List.getElem?_eq_getElem h]
  simp
theorem flat_snocS (l : List ByteArray) (j : Nat) (h : j < l.length) : flat (l.take (j + 1)) = flat (l.take j) ++ (strAt l j).data.toList := by
  rw [take_snocS l j h]
  simp [flat]
theorem S8_append (l : List UInt8) (s : ByteArray) : S8 l ++ s = S8 (l ++ s.data.toList) := by
  have h : (S8 l ++ s).data.toList = (S8 (l ++ s.data.toList)).data.toList := by simp [S8]
  exact (S8_of _).symm.trans ((congrArg S8 h).trans (S8_of _))

/-- The lists of strings cs lie at a. -/
def CallsAt (w : World) (a : Option Addr) (cs : List (List ByteArray)) : Prop :=
  ∀ j, j < cs.length → ∃ ad A c, a = some ad ∧ w.cell? (ad.add j) = some (.slice A (callAt cs j).length c) ∧ (callAt cs j).length ≤ 9223372036854775807 ∧ StrsAt w A (callAt cs j)
theorem callsAt_of {w : World} {a : Option Addr} {cs : List (List ByteArray)} (h : (Kd.slice 9 Kd.string).C w a cs.length cs) : CallsAt w a cs := by
  intro j hj
  obtain ⟨-, -, h3⟩ := h
  obtain ⟨ad, ha, hc⟩ := h3 (by omega)
  obtain ⟨c, hcl, hk, hcell⟩ := hc j cs[j] (List.getElem?_eq_getElem hj)
  obtain ⟨A, c', rfl, hl, hr⟩ := hk
  have e : callAt cs j = cs[j] := by simp [callAt, List.getD_eq_getElem?_getD, List.getElem?_eq_getElem hj]
  rw [e]
  refine ⟨ad, A, c', ha, ?_, hr.2.1, fun i hi => ?_⟩
  · have h1 := hcell 0 _ rfl
    have e1 : j * (Kd.slice 9 Kd.string).sz + 0 = j := by
      show j * 1 + 0 = j
      omega
    rw [e1] at h1
    exact h1
  · obtain ⟨-, -, h3⟩ := hr
    obtain ⟨ad2, ha2, hc2⟩ := h3 (by omega)
    obtain ⟨c2, -, hk2, hcell2⟩ := hc2 i (cs[j])[i] (List.getElem?_eq_getElem hi)
    have hk2' : c2 = [.string (cs[j])[i]] := hk2
    subst hk2'
    refine ⟨ad2, ha2, ?_⟩
    have h1 := hcell2 0 _ rfl
    have e1 : i * Kd.string.sz + 0 = i := by
      show i * 1 + 0 = i
      omega
    rw [e1] at h1
    rw [h1]
    simp [strAt, List.getD_eq_getElem?_getD, List.getElem?_eq_getElem hi]

/-- What holds behind j calls. -/
def StreamAt (w : World) (b : Nat) (cs : List (List ByteArray)) (j : Nat) (all : Value) (wr : World) : Prop :=
  ∃ v, all = .string (S8 (flatC (cs.take j))) ∧ HS w.heap.size wr b v (flatC (cs.take j)) (flatC (cs.take j)).length ∧ Below w.heap.size w wr ∧ (flatC (cs.take j)).length ≤ 1200 * j

set_option maxRecDepth 100000 in
set_option maxHeartbeats 4000000 in
theorem stream_law (a : Option Addr) (cap : Nat) (cs : List (List ByteArray)) (w : World) (hC : CallsAt w a cs) (hcs : cs.length ≤ 9223372036854775807) :
    Calls Try.prog 7 #[.slice a cs.length cap] w (Ret (.bool true) w) := by
  have HA := Lib.hid awake_any
  have HC := Lib.hid hC
  clear hC
  by_cases h20 : (20 : Int) < (cs.length : Int)
  · go_enter Try.func7, Try.ntmps7
    go_wp2_with (go_at_call 11; (with_reducible refine (HA.out _).mono ?_); rintro e w1 ⟨rfl, hb⟩; have HB := Lib.hid hb; clear hb)
    go_ret
    exact ⟨rfl, HB.out⟩
  go_enter Try.func7, Try.ntmps7
  go_wp2_with (first
    | (go_at_call 11; (with_reducible refine (HA.out _).mono ?_); rintro e w1 ⟨rfl, hb1⟩; have HW1 := Lib.hid hb1; clear hb1)
    | (go_at_call 20; (with_reducible refine (hs_new w.heap.size _ HW1.out.size).mono ?_); rintro e w2 ⟨b, v, rfl, hs, hb2⟩; have HH := Lib.hid hs; have HW2 := Lib.hid (HW1.out.trans (hb2.mono HW1.out.size)); clear hs hb2))
  go_loopw [4, 19] (fun all k wr => ∃ j : Nat, j ≤ cs.length ∧ k = .int .i64 j ∧ StreamAt w b cs j all wr) (fun _ k _ => cs.length - (intOf k).toNat)
  case atStart => exact ⟨0, Nat.zero_le _, rfl, v, rfl, HH.out, HW2.out, Nat.zero_le _⟩
  case round =>
    obtain ⟨wo, hwo⟩ : ∃ wo : World, wo = wr := ⟨_, rfl⟩
    obtain ⟨j, hj, rfl, vj, rfl, hs, hbl, hlen⟩ := hrel
    by_cases hlt : j < cs.length
    · have hltI : (j : Int) < (cs.length : Int) := by omega
      obtain ⟨ad, A, c, rfl, hc, hpl, hst⟩ := HC.out j hlt
      have hblk := World.block_lt_of_cell? w _ hc
      have hc1 : wr.cell? (ad.add j) = some (.slice A (callAt cs j).length c) := (hbl.cell hblk).trans hc
      have hts := take_snocC cs j hlt
      obtain ⟨ps, hps⟩ : ∃ ps, ps = callAt cs j := ⟨_, rfl⟩
      obtain ⟨L, hL⟩ : ∃ L, L = flatC (cs.take j) := ⟨_, rfl⟩
      rw [← hps] at hc1 hpl hst hts
      rw [← hL] at hs hlen hts ⊢
      have Hts := Lib.hid hts
      have Hst := Lib.hid hst
      have Hs := Lib.hid hs
      have Hbl := Lib.hid hbl
      clear hps hL hts hst hs hbl hc hblk hwo
      by_cases h6 : (6 : Int) < (ps.length : Int)
      · go_wp2
        go_ret
        exact ⟨rfl, Hbl.out⟩
      · go_wp2
        obtain ⟨wo, hwo⟩ : ∃ wo : World, wo = wr := ⟨_, rfl⟩
        rw [← hwo] at hc1 Hs Hbl ⊢
        clear hwo
        go_loop [4, 28] (fun all k => ∃ i : Nat, i ≤ ps.length ∧ k = .int .i64 i ∧ all = .string (S8 (L ++ flat (ps.take i))) ∧ (flat (ps.take i)).length ≤ 200 * i) (fun _ k => ps.length - (intOf k).toNat)
        case atStart => exact ⟨0, Nat.zero_le _, rfl, by simp [flat], Nat.zero_le _⟩
        case round =>
          obtain ⟨i, hi, rfl, rfl, hfl⟩ := hrel
          by_cases hli : i < ps.length
          · have hliI : (i : Int) < (ps.length : Int) := by omega
            obtain ⟨ad2, rfl, hc2⟩ := Hst.out i hli
            have hblk2 := World.block_lt_of_cell? w _ hc2
            have hc3 : wo.cell? (ad2.add i) = some (.string (strAt ps i)) := (Hbl.out.cell hblk2).trans hc2
            have hss := flat_snocS ps i hli
            obtain ⟨s, hs⟩ : ∃ s, s = strAt ps i := ⟨_, rfl⟩
            rw [← hs] at hc3 hss
            have Hss := Lib.hid hss
            clear hs hss hc2 hblk2
            by_cases h200 : (200 : Int) < (s.size : Int)
            · go_wp2
              go_ret
              exact ⟨rfl, Hbl.out⟩
            · have hcat : ¬ (9223372036854775807 < (((S8 (L ++ flat (ps.take i))).size : Int) + (s.size : Int))) := by
                rw [S8_size, List.length_append]
                omega
              have happ : S8 (L ++ flat (ps.take i)) ++ s = S8 (L ++ flat (ps.take (i + 1))) := by rw [S8_append, Hss.out, List.append_assoc]
              have hfl1 : (flat (ps.take (i + 1))).length ≤ 200 * (i + 1) := by
                rw [Hss.out, List.length_append]
                have : s.data.toList.length = s.size := by simp
                omega
              have Hf := Lib.hid hfl1
              clear hfl1
              go_wp2
              go_round
              case rel => exact ⟨i + 1, by omega, by go_num, rfl, Hf.out⟩
              case measure => simp [intOf]; omega
          · have hall : ps.take i = ps := List.take_of_length_le (by omega)
            rw [hall] at hfl
            rw [hall]
            have hip : i = ps.length := by omega
            clear hall
            have Hts2 := Hts
            obtain ⟨L2, hL2⟩ : ∃ L2, L2 = L ++ flat ps := ⟨_, rfl⟩
            have hl2 : L2.length = L.length + tot ps := by rw [hL2, List.length_append, flat_length]
            have hl2b : L2.length ≤ 1200 * (j + 1) := by
              rw [hL2, List.length_append]
              omega
            have htp : tot ps ≤ 1200 := by
              rw [← flat_length]
              omega
            rw [← hL2]
            have hsz : (S8 L2).size = L2.length := S8_size L2
            have HW := Lib.hid (hs_write w.heap.size b vj L L.length ps A c wo Hs.out Hbl.out.size (by omega) (by omega) hpl (fun i hi => by
              obtain ⟨ad3, h3, hc3⟩ := Hst.out i hi
              exact ⟨ad3, h3, (Hbl.out.cell (World.block_lt_of_cell? w _ hc3)).trans hc3⟩) (fun hp ad3 he => by
              obtain ⟨ad4, h4, hc4⟩ := Hst.out 0 hp
              have hb4 := World.block_lt_of_cell? w _ hc4
              rw [add_block] at hb4
              rw [he] at h4
              injection h4 with h4
              subst h4
              exact ⟨fun e => by have := Hs.out.ge; omega, fun e => by have := (Hs.out.st.seg.lt _ e.symm).1; omega⟩))
            have hSD : ∀ W, Calls Try.prog 12 #[.string (S8 L2)] W (Ret (.string (S8 (dsum L2))) W) := fun W => dsum_any (S8 L2) W (by rw [hsz]; omega)
            have HSD := Lib.hid hSD
            rw [← hL2, show L.length + tot ps = L2.length by omega] at HW
            have HL2 := Lib.hid hL2
            have Hl2b := Lib.hid hl2b
            have hszI : ((S8 L2).size : Int) = (L2.length : Int) := by omega
            clear hip hL2 hl2 hl2b htp hsz hSD
            go_wp2_with (first
              | (go_at_call 21; (with_reducible refine HW.out.mono ?_); rintro e w3 ⟨rfl, v3, hs3, hk3, -⟩; have Hs3 := Lib.hid hs3; have Hk3 := Lib.hid hk3; clear hs3 hk3)
              | (go_at_call 22; (with_reducible refine (hs_sum w.heap.size b v3 L2 _ w3 Hs3.out (by have := Hl2b.out; omega)).mono ?_); rintro e w4 ⟨rfl, hb4⟩; have HB4 := Lib.hid hb4; clear hb4)
              | (go_at_call 12; (with_reducible refine (HSD.out _).mono ?_); rintro e w5 ⟨rfl, hb5⟩; have HB5 := Lib.hid hb5; clear hb5))
            have hw3 : Below w.heap.size w w3 := Hbl.out.trans (Hk3.out.below Hbl.out.size (fun k hk => by
              rcases hk with rfl | hk
              · exact Hs.out.ge
              · exact (Hs.out.st.seg.lt k hk.symm).1))
            have hw5 := below_then HB4.out HB4.out.size HB5.out
            have hfin : StreamAt w b cs (j + 1) (.string (S8 L2)) w5 := ⟨v3, by rw [Hts.out, ← HL2.out], by rw [Hts.out, ← HL2.out]; exact Hs3.out.below hw5, below_then hw3 hw3.size hw5, by rw [Hts.out, ← HL2.out]; exact Hl2b.out⟩
            refine ⟨⟨j + 1, by omega, by go_num, hfin⟩, ?_⟩
            simp [intOf]
            omega
    · have hall : cs.take j = cs := List.take_of_length_le (by omega)
      rw [hall] at hs hlen
      rw [hall]
      have hje : j = cs.length := by omega
      clear hall
      obtain ⟨L, hL⟩ : ∃ L, L = flatC cs := ⟨_, rfl⟩
      rw [← hL] at hs hlen ⊢
      have hSD : ∀ W, Calls Try.prog 12 #[.string (S8 L)] W (Ret (.string (S8 (dsum L))) W) := fun W => dsum_any (S8 L) W (by rw [S8_size]; omega)
      have HSD := Lib.hid hSD
      have Hs := Lib.hid hs
      have Hbl := Lib.hid hbl
      have Hlen := Lib.hid hlen
      have hltI : ¬ (j : Int) < (cs.length : Int) := by omega
      have hL20 : L.length ≤ 140737488355328 := by omega
      clear hje hL hSD hs hbl hlen hwo
      go_wp2_with (first
        | (go_at_call 22; (with_reducible refine (hs_sum w.heap.size b vj L _ wr Hs.out hL20).mono ?_); rintro e w4 ⟨rfl, hb4⟩; have HB4 := Lib.hid hb4; clear hb4)
        | (go_at_call 12; (with_reducible refine (HSD.out _).mono ?_); rintro e w5 ⟨rfl, hb5⟩; have HB5 := Lib.hid hb5; clear hb5))
      go_ret
      exact ⟨rfl, below_then (below_then Hbl.out Hbl.out.size HB4.out) (below_then Hbl.out Hbl.out.size HB4.out).size HB5.out⟩

end Go.Proofs.Ytkkoldfaplonaaa
