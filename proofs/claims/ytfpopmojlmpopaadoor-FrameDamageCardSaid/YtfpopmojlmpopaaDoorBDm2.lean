/-
  Part 2 of the proof: words about memory and rows, functions of the program as Lean functions with the contracts that its code comes to just their answers, and plain lemmas; no conditions of its own.
-/
import Derived.Lib.BufferKept
import Derived.Lib.UnsafeStr
import Derived.Lib.OwnKind
import Derived.Test.YtfpopmojlmpopaaDoorBDm1
section
namespace Go.Proofs.YtfpopmojlmpopaaDoor.G
open Go.RowKit Go.Proofs.YtfpopmojlmpopaaDoorW.PrintWords Go.Proofs.YtfpopmojlmpopaaDoorW.PrintLast Go.Proofs.YtfpopmojlmpopaaDoorW.PrintMore
attribute [local go_sem] max2_int min2_int max_two min_two max_three min_three max_four min_four
set_option linter.unusedVariables false
set_option linter.unusedSimpArgs false
def frame_Check.j0 : Nat → Bool → Int → Int → Int → Int → Int → List ByteArray → List (S52) → Option (Int)
 | 0, _, _, _, _, _, _, _, _ => none
 | k + 1, x34, x317000, x317001, x317002, x317003, x317004, x317005, x317006 => if x34 = true then (some 5) else ((frame_lineError.f k x317005).bind fun t318 => (if t318 = 0 then ((frame_possible.f k x317006).bind fun t319 => (if t319 = true then (some 0) else (some 1))) else (some t318)))
def frame_Check.f (k : Nat) (a0_0 : Int) (a0_1 : Int) (a0_2 : Int) (a0_3 : Int) (a0_4 : Int) (l0_5 : List ByteArray) (l0_6 : List (S52)) : Option (Int) := (frame_routed.f k a0_0 a0_1 a0_2 a0_3 a0_4 l0_5 l0_6).bind fun t317 => (if t317 = true then (if a0_3 < 0 then (frame_Check.j0 k true a0_0 a0_1 a0_2 a0_3 a0_4 l0_5 l0_6) else (if a0_3 > 1000000000 then (frame_Check.j0 k true a0_0 a0_1 a0_2 a0_3 a0_4 l0_5 l0_6) else (if a0_4 < 0 then (frame_Check.j0 k true a0_0 a0_1 a0_2 a0_3 a0_4 l0_5 l0_6) else (if a0_4 > 1000000000 then (frame_Check.j0 k true a0_0 a0_1 a0_2 a0_3 a0_4 l0_5 l0_6) else (if a0_0 = 3 then (frame_Check.j0 k (a0_4 == 0) a0_0 a0_1 a0_2 a0_3 a0_4 l0_5 l0_6) else (frame_Check.j0 k false a0_0 a0_1 a0_2 a0_3 a0_4 l0_5 l0_6)))))) else (some 1))
set_option maxHeartbeats 8000000 in
set_option maxRecDepth 100000 in
theorem frame_Check.calls (k : Nat) (a0_0 : Int) (a0_1 : Int) (a0_2 : Int) (a0_3 : Int) (a0_4 : Int) (A0_5 : Option Addr) (c0_5 : Nat) (l0_5 : List ByteArray) (A0_6 : Option Addr) (c0_6 : Nat) (l0_6 : List (S52)) (r : Int) (w : World) (hr0_5 : Kd.C Kd.string w A0_5 l0_5.length l0_5) (hc0_5 : l0_5.length ≤ c0_5) (hr0_6 : Kd.C k52 w A0_6 l0_6.length l0_6) (hc0_6 : l0_6.length ≤ c0_6) (h : frame_Check.f k a0_0 a0_1 a0_2 a0_3 a0_4 l0_5 l0_6 = some r) :
  Calls Tryd.prog 28 #[.agg #[.int .i64 a0_0, .int .i64 a0_1, .int .i64 a0_2, .int .i64 a0_3, .int .i64 a0_4, .slice A0_5 l0_5.length c0_5, .slice A0_6 l0_6.length c0_6]] w fun e w' => e = .returned (.int .i64 r) ∧ Below w.heap.size w w' := by
 have hu31 := Tryd.underlying31
 have HR0_5 := Aside0.mk hr0_5
 have HC0_5 := Aside0.mk hc0_5
 clear hr0_5 hc0_5
 have HR0_6 := Aside0.mk hr0_6
 have HC0_6 := Aside0.mk hc0_6
 clear hr0_6 hc0_6
 have HB := Aside0.mk (Below.refl w.heap.size w)
 have H : ((frame_routed.f k a0_0 a0_1 a0_2 a0_3 a0_4 l0_5 l0_6).bind fun t317 => (if t317 = true then (if a0_3 < 0 then (frame_Check.j0 k true a0_0 a0_1 a0_2 a0_3 a0_4 l0_5 l0_6) else (if a0_3 > 1000000000 then (frame_Check.j0 k true a0_0 a0_1 a0_2 a0_3 a0_4 l0_5 l0_6) else (if a0_4 < 0 then (frame_Check.j0 k true a0_0 a0_1 a0_2 a0_3 a0_4 l0_5 l0_6) else (if a0_4 > 1000000000 then (frame_Check.j0 k true a0_0 a0_1 a0_2 a0_3 a0_4 l0_5 l0_6) else (if a0_0 = 3 then (frame_Check.j0 k (a0_4 == 0) a0_0 a0_1 a0_2 a0_3 a0_4 l0_5 l0_6) else (frame_Check.j0 k false a0_0 a0_1 a0_2 a0_3 a0_4 l0_5 l0_6)))))) else (some 1))) = some r := h
 clear h
 replace H := Option.bind_eq_some_iff.mp H
 obtain ⟨t317, A20, H⟩ := H
 replace H : (if t317 = true then (if a0_3 < 0 then (frame_Check.j0 k true a0_0 a0_1 a0_2 a0_3 a0_4 l0_5 l0_6) else (if a0_3 > 1000000000 then (frame_Check.j0 k true a0_0 a0_1 a0_2 a0_3 a0_4 l0_5 l0_6) else (if a0_4 < 0 then (frame_Check.j0 k true a0_0 a0_1 a0_2 a0_3 a0_4 l0_5 l0_6) else (if a0_4 > 1000000000 then (frame_Check.j0 k true a0_0 a0_1 a0_2 a0_3 a0_4 l0_5 l0_6) else (if a0_0 = 3 then (frame_Check.j0 k (a0_4 == 0) a0_0 a0_1 a0_2 a0_3 a0_4 l0_5 l0_6) else (frame_Check.j0 k false a0_0 a0_1 a0_2 a0_3 a0_4 l0_5 l0_6)))))) else (some 1)) = some r := H
 have A2 := Aside0.mk A20
 clear A20
 by_cases c3 : t317 = true
 ·subst c3
  have H1 : (if a0_3 < 0 then (frame_Check.j0 k true a0_0 a0_1 a0_2 a0_3 a0_4 l0_5 l0_6) else (if a0_3 > 1000000000 then (frame_Check.j0 k true a0_0 a0_1 a0_2 a0_3 a0_4 l0_5 l0_6) else (if a0_4 < 0 then (frame_Check.j0 k true a0_0 a0_1 a0_2 a0_3 a0_4 l0_5 l0_6) else (if a0_4 > 1000000000 then (frame_Check.j0 k true a0_0 a0_1 a0_2 a0_3 a0_4 l0_5 l0_6) else (if a0_0 = 3 then (frame_Check.j0 k (a0_4 == 0) a0_0 a0_1 a0_2 a0_3 a0_4 l0_5 l0_6) else (frame_Check.j0 k false a0_0 a0_1 a0_2 a0_3 a0_4 l0_5 l0_6)))))) = some r := by rw [if_pos rfl] at H; exact H
  clear H
  have H := H1
  clear H1
  have HC4 := Aside0.mk H
  clear H
  go_enter Tryd.func28, Tryd.ntmps28
  go_upto_region 3 with (first | ((with_reducible refine gate_dst (N := 1) rfl ?_); refine box_event ?hg (N := 1) ?hd (cs := #[.int .i64 a0_0, .int .i64 a0_1, .int .i64 a0_2, .int .i64 a0_3, .int .i64 a0_4, .slice A0_5 l0_5.length c0_5, .slice A0_6 l0_6.length c0_6]) (t := 31) ?hr ?_; (case hd => rfl); (case hg => rfl); (case hr => first | (go_simp; done) | (go_simp; rfl)); intro gb316 hg w5 hbox hb; have n0_ := Aside0.mk (below_step (by repeat (first | (with_reducible first | exact HB.out | apply below_alloc | apply pw_below_drewN | apply below_drew1) | exact HB.out)) hb); have n1_ := Aside0.mk (hbox); have n2_ := Aside0.mk ((by rw [hg]; exact (below_size (by repeat (first | (with_reducible first | exact HB.out | apply below_alloc | apply pw_below_drewN | apply below_drew1) | exact HB.out))) : w.heap.size ≤ gb316)); have n3_ := Aside0.mk ((by rw [hg]; exact (below_size (by repeat (first | (with_reducible first | exact HB.out | apply below_alloc | apply pw_below_drewN | apply below_drew1) | exact HB.out))) : w.heap.size ≤ gb316)); clear HB; have HB := n0_; have BK316 := n1_; have GW316 := n2_; have GE316 := n3_; clear n0_ n1_ n2_ n3_; clear hb hbox hg; have hcz6_0 : w5.cell? ⟨gb316, 0, none⟩ = some (.int .i64 a0_0) := (blk_cell BK316.out 0).trans rfl; have hcz6_1 : w5.cell? ⟨gb316, 1, none⟩ = some (.int .i64 a0_1) := (blk_cell BK316.out 1).trans rfl; have hcz6_2 : w5.cell? ⟨gb316, 2, none⟩ = some (.int .i64 a0_2) := (blk_cell BK316.out 2).trans rfl; have hcz6_3 : w5.cell? ⟨gb316, 3, none⟩ = some (.int .i64 a0_3) := (blk_cell BK316.out 3).trans rfl; have hcz6_4 : w5.cell? ⟨gb316, 4, none⟩ = some (.int .i64 a0_4) := (blk_cell BK316.out 4).trans rfl; have hcz6_5 : w5.cell? ⟨gb316, 5, none⟩ = some (.slice A0_5 l0_5.length c0_5) := (blk_cell BK316.out 5).trans rfl; have hcz6_6 : w5.cell? ⟨gb316, 6, none⟩ = some (.slice A0_6 l0_6.length c0_6) := (blk_cell BK316.out 6).trans rfl; have hfz6_0 := blk_frozen BK316.out 0; have hfz6_1 := blk_frozen BK316.out 1; have hfz6_2 := blk_frozen BK316.out 2; have hfz6_3 := blk_frozen BK316.out 3; have hfz6_4 := blk_frozen BK316.out 4; have hfz6_5 := blk_frozen BK316.out 5; have hfz6_6 := blk_frozen BK316.out 6) | ((with_reducible refine gate_callee (f := 52) rfl ?_); refine goesL_ (some 5) rfl rfl Tryd.func52 (by kernel_rfl) rfl #[.agg #[.int .i64 a0_0, .int .i64 a0_1, .int .i64 a0_2, .int .i64 a0_3, .int .i64 a0_4, .slice A0_5 l0_5.length c0_5, .slice A0_6 l0_6.length c0_6]] rfl (by (try simp only [List.map_toArray, List.map_cons, List.map_nil]); first | done | rfl | (simp only [List.length_drop, List.length_take]; rfl)) ?_; (with_reducible refine (frame_routed.calls k a0_0 a0_1 a0_2 a0_3 a0_4 _ _ l0_5 _ _ l0_6 true _ ?side1 ?side2 ?side3 ?side4 A2.out).mono ?_); (case side1 => repeat (first | exact (Kd.C_below HR0_5.out HB.out) | (with_reducible refine Kd.C_alloc ?_ _) | (with_reducible refine Kd.C_drewN ?_ _) | (with_reducible refine Kd.C_drew ?_))); (case side2 => exact HC0_5.out); (case side3 => repeat (first | exact (Kd.C_below HR0_6.out HB.out) | (with_reducible refine Kd.C_alloc ?_ _) | (with_reducible refine Kd.C_drewN ?_ _) | (with_reducible refine Kd.C_drew ?_))); (case side4 => exact HC0_6.out); rintro e w7 ⟨rfl, hb⟩; refine ⟨_, rfl, ?_⟩; have n0_ := Aside0.mk (blk_below (g := gb316) (o := .cells #[.int .i64 a0_0, .int .i64 a0_1, .int .i64 a0_2, .int .i64 a0_3, .int .i64 a0_4, .slice A0_5 l0_5.length c0_5, .slice A0_6 l0_6.length c0_6] 31 (0, 0)) (by (with_reducible repeat (first | refine blk_drewN ?_ _ | refine blk_drew ?_ | refine blk_alloc ?_ _)); exact BK316.out) hb); have n1_ := Aside0.mk (below_step (by repeat (first | (with_reducible first | exact HB.out | apply below_alloc | apply pw_below_drewN | apply below_drew1 | refine below_set ?_ GE316.out) | exact HB.out)) hb); clear BK316; clear HB; have BK316 := n0_; have HB := n1_; clear n0_ n1_; (try clear hb); (try clear hb2); (try clear hk); (try clear hi)))
  (try simp only [Act.put, sA_, sB_, sC_])
  go_cut [34] (fun v34 wc => ∃ (kq : Nat) (x34_3 : Bool), v34 = .bool x34_3 ∧ Aside0 (frame_Check.j0 kq x34_3 a0_0 a0_1 a0_2 a0_3 a0_4 l0_5 l0_6 = some r) ∧ Aside0 (kq ≤ k) ∧ Aside0 (wc.heap[gb316]? = some (.cells #[.int .i64 a0_0, .int .i64 a0_1, .int .i64 a0_2, .int .i64 a0_3, .int .i64 a0_4, (.slice A0_5 l0_5.length c0_5), (.slice A0_6 l0_6.length c0_6)] 31 (0, 0))) ∧ Aside0 (Below w.heap.size w wc))
  case first =>
   have H := HC4.out
   clear HC4
   by_cases c8 : a0_3 < 0
   ·rw [if_pos c8] at H
    have c8b0 : decide (a0_3 < 0) = true := decide_eq_true c8
    clear c8
    (first | rw [c8b0] | (simp only [i64_w, i32_w]; rw [c8b0]) | skip)
    have H' := Aside0.mk H
    clear H
    have hcz9_0 : w7.cell? ⟨gb316, 0, none⟩ = some (.int .i64 a0_0) := (blk_cell BK316.out 0).trans rfl
    have hcz9_1 : w7.cell? ⟨gb316, 1, none⟩ = some (.int .i64 a0_1) := (blk_cell BK316.out 1).trans rfl
    have hcz9_2 : w7.cell? ⟨gb316, 2, none⟩ = some (.int .i64 a0_2) := (blk_cell BK316.out 2).trans rfl
    have hcz9_3 : w7.cell? ⟨gb316, 3, none⟩ = some (.int .i64 a0_3) := (blk_cell BK316.out 3).trans rfl
    have hcz9_4 : w7.cell? ⟨gb316, 4, none⟩ = some (.int .i64 a0_4) := (blk_cell BK316.out 4).trans rfl
    have hcz9_5 : w7.cell? ⟨gb316, 5, none⟩ = some (.slice A0_5 l0_5.length c0_5) := (blk_cell BK316.out 5).trans rfl
    have hcz9_6 : w7.cell? ⟨gb316, 6, none⟩ = some (.slice A0_6 l0_6.length c0_6) := (blk_cell BK316.out 6).trans rfl
    have hfz9_0 := blk_frozen BK316.out 0
    have hfz9_1 := blk_frozen BK316.out 1
    have hfz9_2 := blk_frozen BK316.out 2
    have hfz9_3 := blk_frozen BK316.out 3
    have hfz9_4 := blk_frozen BK316.out 4
    have hfz9_5 := blk_frozen BK316.out 5
    have hfz9_6 := blk_frozen BK316.out 6
    go_wp2
    go_meet
    case rel => exact ⟨_, (true), (by first | rfl | (simp; done) | (simp [*]; done)), H', ⟨by first | omega | exact Nat.le_refl _⟩, ⟨by (with_reducible repeat (first | refine blk_drewN ?_ _ | refine blk_drew ?_ | refine blk_alloc ?_ _)); exact BK316.out⟩, ⟨by repeat (first | (with_reducible first | exact HB.out | apply below_alloc | apply pw_below_drewN | apply below_drew1 | refine below_set ?_ GE316.out) | exact HB.out)⟩⟩
   ·rw [if_neg c8] at H
    have c8b0 : decide (a0_3 < 0) = false := decide_eq_false c8
    clear c8
    (first | rw [c8b0] | (simp only [i64_w, i32_w]; rw [c8b0]) | skip)
    by_cases c10 : a0_3 > 1000000000
    ·rw [if_pos c10] at H
     have c10b0 : decide (1000000000 < a0_3) = true := decide_eq_true c10
     clear c10
     have H' := Aside0.mk H
     clear H
     have hcz11_0 : w7.cell? ⟨gb316, 0, none⟩ = some (.int .i64 a0_0) := (blk_cell BK316.out 0).trans rfl
     have hcz11_1 : w7.cell? ⟨gb316, 1, none⟩ = some (.int .i64 a0_1) := (blk_cell BK316.out 1).trans rfl
     have hcz11_2 : w7.cell? ⟨gb316, 2, none⟩ = some (.int .i64 a0_2) := (blk_cell BK316.out 2).trans rfl
     have hcz11_3 : w7.cell? ⟨gb316, 3, none⟩ = some (.int .i64 a0_3) := (blk_cell BK316.out 3).trans rfl
     have hcz11_4 : w7.cell? ⟨gb316, 4, none⟩ = some (.int .i64 a0_4) := (blk_cell BK316.out 4).trans rfl
     have hcz11_5 : w7.cell? ⟨gb316, 5, none⟩ = some (.slice A0_5 l0_5.length c0_5) := (blk_cell BK316.out 5).trans rfl
     have hcz11_6 : w7.cell? ⟨gb316, 6, none⟩ = some (.slice A0_6 l0_6.length c0_6) := (blk_cell BK316.out 6).trans rfl
     have hfz11_0 := blk_frozen BK316.out 0
     have hfz11_1 := blk_frozen BK316.out 1
     have hfz11_2 := blk_frozen BK316.out 2
     have hfz11_3 := blk_frozen BK316.out 3
     have hfz11_4 := blk_frozen BK316.out 4
     have hfz11_5 := blk_frozen BK316.out 5
     have hfz11_6 := blk_frozen BK316.out 6
     go_wp2
     go_meet
     case rel => exact ⟨_, (true), (by first | rfl | (simp; done) | (simp [*]; done)), H', ⟨by first | omega | exact Nat.le_refl _⟩, ⟨by (with_reducible repeat (first | refine blk_drewN ?_ _ | refine blk_drew ?_ | refine blk_alloc ?_ _)); exact BK316.out⟩, ⟨by repeat (first | (with_reducible first | exact HB.out | apply below_alloc | apply pw_below_drewN | apply below_drew1 | refine below_set ?_ GE316.out) | exact HB.out)⟩⟩
    ·rw [if_neg c10] at H
     have c10b0 : decide (1000000000 < a0_3) = false := decide_eq_false c10
     clear c10
     by_cases c12 : a0_4 < 0
     ·rw [if_pos c12] at H
      have c12b0 : decide (a0_4 < 0) = true := decide_eq_true c12
      clear c12
      have H' := Aside0.mk H
      clear H
      have hcz13_0 : w7.cell? ⟨gb316, 0, none⟩ = some (.int .i64 a0_0) := (blk_cell BK316.out 0).trans rfl
      have hcz13_1 : w7.cell? ⟨gb316, 1, none⟩ = some (.int .i64 a0_1) := (blk_cell BK316.out 1).trans rfl
      have hcz13_2 : w7.cell? ⟨gb316, 2, none⟩ = some (.int .i64 a0_2) := (blk_cell BK316.out 2).trans rfl
      have hcz13_3 : w7.cell? ⟨gb316, 3, none⟩ = some (.int .i64 a0_3) := (blk_cell BK316.out 3).trans rfl
      have hcz13_4 : w7.cell? ⟨gb316, 4, none⟩ = some (.int .i64 a0_4) := (blk_cell BK316.out 4).trans rfl
      have hcz13_5 : w7.cell? ⟨gb316, 5, none⟩ = some (.slice A0_5 l0_5.length c0_5) := (blk_cell BK316.out 5).trans rfl
      have hcz13_6 : w7.cell? ⟨gb316, 6, none⟩ = some (.slice A0_6 l0_6.length c0_6) := (blk_cell BK316.out 6).trans rfl
      have hfz13_0 := blk_frozen BK316.out 0
      have hfz13_1 := blk_frozen BK316.out 1
      have hfz13_2 := blk_frozen BK316.out 2
      have hfz13_3 := blk_frozen BK316.out 3
      have hfz13_4 := blk_frozen BK316.out 4
      have hfz13_5 := blk_frozen BK316.out 5
      have hfz13_6 := blk_frozen BK316.out 6
      go_wp2
      go_meet
      case rel => exact ⟨_, (true), (by first | rfl | (simp; done) | (simp [*]; done)), H', ⟨by first | omega | exact Nat.le_refl _⟩, ⟨by (with_reducible repeat (first | refine blk_drewN ?_ _ | refine blk_drew ?_ | refine blk_alloc ?_ _)); exact BK316.out⟩, ⟨by repeat (first | (with_reducible first | exact HB.out | apply below_alloc | apply pw_below_drewN | apply below_drew1 | refine below_set ?_ GE316.out) | exact HB.out)⟩⟩
     ·rw [if_neg c12] at H
      have c12b0 : decide (a0_4 < 0) = false := decide_eq_false c12
      clear c12
      by_cases c14 : a0_4 > 1000000000
      ·rw [if_pos c14] at H
       have c14b0 : decide (1000000000 < a0_4) = true := decide_eq_true c14
       clear c14
       have H' := Aside0.mk H
       clear H
       have hcz15_0 : w7.cell? ⟨gb316, 0, none⟩ = some (.int .i64 a0_0) := (blk_cell BK316.out 0).trans rfl
       have hcz15_1 : w7.cell? ⟨gb316, 1, none⟩ = some (.int .i64 a0_1) := (blk_cell BK316.out 1).trans rfl
       have hcz15_2 : w7.cell? ⟨gb316, 2, none⟩ = some (.int .i64 a0_2) := (blk_cell BK316.out 2).trans rfl
       have hcz15_3 : w7.cell? ⟨gb316, 3, none⟩ = some (.int .i64 a0_3) := (blk_cell BK316.out 3).trans rfl
       have hcz15_4 : w7.cell? ⟨gb316, 4, none⟩ = some (.int .i64 a0_4) := (blk_cell BK316.out 4).trans rfl
       have hcz15_5 : w7.cell? ⟨gb316, 5, none⟩ = some (.slice A0_5 l0_5.length c0_5) := (blk_cell BK316.out 5).trans rfl
       have hcz15_6 : w7.cell? ⟨gb316, 6, none⟩ = some (.slice A0_6 l0_6.length c0_6) := (blk_cell BK316.out 6).trans rfl
       have hfz15_0 := blk_frozen BK316.out 0
       have hfz15_1 := blk_frozen BK316.out 1
       have hfz15_2 := blk_frozen BK316.out 2
       have hfz15_3 := blk_frozen BK316.out 3
       have hfz15_4 := blk_frozen BK316.out 4
       have hfz15_5 := blk_frozen BK316.out 5
       have hfz15_6 := blk_frozen BK316.out 6
       go_wp2
       go_meet
       case rel => exact ⟨_, (true), (by first | rfl | (simp; done) | (simp [*]; done)), H', ⟨by first | omega | exact Nat.le_refl _⟩, ⟨by (with_reducible repeat (first | refine blk_drewN ?_ _ | refine blk_drew ?_ | refine blk_alloc ?_ _)); exact BK316.out⟩, ⟨by repeat (first | (with_reducible first | exact HB.out | apply below_alloc | apply pw_below_drewN | apply below_drew1 | refine below_set ?_ GE316.out) | exact HB.out)⟩⟩
      ·rw [if_neg c14] at H
       have c14b0 : decide (1000000000 < a0_4) = false := decide_eq_false c14
       clear c14
       by_cases c16 : a0_0 = 3
       ·rw [if_pos c16] at H
        have c16b0 : (a0_0 == 3) = true := beq_iff_eq.mpr c16
        have c16b1 : (a0_0 != 3) = false := bne_eq_false_iff_eq.mpr c16
        clear c16
        have H' := Aside0.mk H
        clear H
        have hcz17_0 : w7.cell? ⟨gb316, 0, none⟩ = some (.int .i64 a0_0) := (blk_cell BK316.out 0).trans rfl
        have hcz17_1 : w7.cell? ⟨gb316, 1, none⟩ = some (.int .i64 a0_1) := (blk_cell BK316.out 1).trans rfl
        have hcz17_2 : w7.cell? ⟨gb316, 2, none⟩ = some (.int .i64 a0_2) := (blk_cell BK316.out 2).trans rfl
        have hcz17_3 : w7.cell? ⟨gb316, 3, none⟩ = some (.int .i64 a0_3) := (blk_cell BK316.out 3).trans rfl
        have hcz17_4 : w7.cell? ⟨gb316, 4, none⟩ = some (.int .i64 a0_4) := (blk_cell BK316.out 4).trans rfl
        have hcz17_5 : w7.cell? ⟨gb316, 5, none⟩ = some (.slice A0_5 l0_5.length c0_5) := (blk_cell BK316.out 5).trans rfl
        have hcz17_6 : w7.cell? ⟨gb316, 6, none⟩ = some (.slice A0_6 l0_6.length c0_6) := (blk_cell BK316.out 6).trans rfl
        have hfz17_0 := blk_frozen BK316.out 0
        have hfz17_1 := blk_frozen BK316.out 1
        have hfz17_2 := blk_frozen BK316.out 2
        have hfz17_3 := blk_frozen BK316.out 3
        have hfz17_4 := blk_frozen BK316.out 4
        have hfz17_5 := blk_frozen BK316.out 5
        have hfz17_6 := blk_frozen BK316.out 6
        go_wp2
        go_meet
        case rel => exact ⟨_, ((a0_4 == 0)), (by first | rfl | (simp; done) | (simp [*]; done)), H', ⟨by first | omega | exact Nat.le_refl _⟩, ⟨by (with_reducible repeat (first | refine blk_drewN ?_ _ | refine blk_drew ?_ | refine blk_alloc ?_ _)); exact BK316.out⟩, ⟨by repeat (first | (with_reducible first | exact HB.out | apply below_alloc | apply pw_below_drewN | apply below_drew1 | refine below_set ?_ GE316.out) | exact HB.out)⟩⟩
       ·rw [if_neg c16] at H
        have c16b0 : (a0_0 == 3) = false := beq_eq_false_iff_ne.mpr c16
        have c16b1 : (a0_0 != 3) = true := bne_iff_ne.mpr c16
        have H' := Aside0.mk H
        clear H
        have hcz18_0 : w7.cell? ⟨gb316, 0, none⟩ = some (.int .i64 a0_0) := (blk_cell BK316.out 0).trans rfl
        have hcz18_1 : w7.cell? ⟨gb316, 1, none⟩ = some (.int .i64 a0_1) := (blk_cell BK316.out 1).trans rfl
        have hcz18_2 : w7.cell? ⟨gb316, 2, none⟩ = some (.int .i64 a0_2) := (blk_cell BK316.out 2).trans rfl
        have hcz18_3 : w7.cell? ⟨gb316, 3, none⟩ = some (.int .i64 a0_3) := (blk_cell BK316.out 3).trans rfl
        have hcz18_4 : w7.cell? ⟨gb316, 4, none⟩ = some (.int .i64 a0_4) := (blk_cell BK316.out 4).trans rfl
        have hcz18_5 : w7.cell? ⟨gb316, 5, none⟩ = some (.slice A0_5 l0_5.length c0_5) := (blk_cell BK316.out 5).trans rfl
        have hcz18_6 : w7.cell? ⟨gb316, 6, none⟩ = some (.slice A0_6 l0_6.length c0_6) := (blk_cell BK316.out 6).trans rfl
        have hfz18_0 := blk_frozen BK316.out 0
        have hfz18_1 := blk_frozen BK316.out 1
        have hfz18_2 := blk_frozen BK316.out 2
        have hfz18_3 := blk_frozen BK316.out 3
        have hfz18_4 := blk_frozen BK316.out 4
        have hfz18_5 := blk_frozen BK316.out 5
        have hfz18_6 := blk_frozen BK316.out 6
        go_wp2
        go_meet
        case rel => exact ⟨_, (false), (by first | rfl | (simp; done) | (simp [*]; done)), H', ⟨by first | omega | exact Nat.le_refl _⟩, ⟨by (with_reducible repeat (first | refine blk_drewN ?_ _ | refine blk_drew ?_ | refine blk_alloc ?_ _)); exact BK316.out⟩, ⟨by repeat (first | (with_reducible first | exact HB.out | apply below_alloc | apply pw_below_drewN | apply below_drew1 | refine below_set ?_ GE316.out) | exact HB.out)⟩⟩
  case rest =>
   clear HC4
   try clear c1
   try clear c2
   try clear p2
   try clear c3
   try clear c5
   try clear c8
   try clear c8b0
   try clear c10
   try clear c10b0
   try clear c12
   try clear c12b0
   try clear c14
   try clear c14b0
   try clear c16
   try clear c16b0
   try clear c16b1
   try clear hcz11_0
   try clear hcz11_1
   try clear hcz11_2
   try clear hcz11_3
   try clear hcz11_4
   try clear hcz11_5
   try clear hcz11_6
   try clear hcz13_0
   try clear hcz13_1
   try clear hcz13_2
   try clear hcz13_3
   try clear hcz13_4
   try clear hcz13_5
   try clear hcz13_6
   try clear hcz15_0
   try clear hcz15_1
   try clear hcz15_2
   try clear hcz15_3
   try clear hcz15_4
   try clear hcz15_5
   try clear hcz15_6
   try clear hcz17_0
   try clear hcz17_1
   try clear hcz17_2
   try clear hcz17_3
   try clear hcz17_4
   try clear hcz17_5
   try clear hcz17_6
   try clear hcz18_0
   try clear hcz18_1
   try clear hcz18_2
   try clear hcz18_3
   try clear hcz18_4
   try clear hcz18_5
   try clear hcz18_6
   try clear hcz6_0
   try clear hcz6_1
   try clear hcz6_2
   try clear hcz6_3
   try clear hcz6_4
   try clear hcz6_5
   try clear hcz6_6
   try clear hcz9_0
   try clear hcz9_1
   try clear hcz9_2
   try clear hcz9_3
   try clear hcz9_4
   try clear hcz9_5
   try clear hcz9_6
   try clear hfz11_0
   try clear hfz11_1
   try clear hfz11_2
   try clear hfz11_3
   try clear hfz11_4
   try clear hfz11_5
   try clear hfz11_6
   try clear hfz13_0
   try clear hfz13_1
   try clear hfz13_2
   try clear hfz13_3
   try clear hfz13_4
   try clear hfz13_5
   try clear hfz13_6
   try clear hfz15_0
   try clear hfz15_1
   try clear hfz15_2
   try clear hfz15_3
   try clear hfz15_4
   try clear hfz15_5
   try clear hfz15_6
   try clear hfz17_0
   try clear hfz17_1
   try clear hfz17_2
   try clear hfz17_3
   try clear hfz17_4
   try clear hfz17_5
   try clear hfz17_6
   try clear hfz18_0
   try clear hfz18_1
   try clear hfz18_2
   try clear hfz18_3
   try clear hfz18_4
   try clear hfz18_5
   try clear hfz18_6
   try clear hfz6_0
   try clear hfz6_1
   try clear hfz6_2
   try clear hfz6_3
   try clear hfz6_4
   try clear hfz6_5
   try clear hfz6_6
   try clear hfz9_0
   try clear hfz9_1
   try clear hfz9_2
   try clear hfz9_3
   try clear hfz9_4
   try clear hfz9_5
   try clear hfz9_6
   obtain ⟨kq, x34_3, rfl, HA, HJ3, BK316, HB⟩ := hcut
   cases kq with
   | zero => exact absurd HA.out (by simp [frame_Check.j0])
   | succ kj3 =>
    have H := HA.out
    clear HA
    simp only [frame_Check.j0] at H
    by_cases c19 : x34_3 = true
    ·subst c19
     have H1 : (some 5) = some r := by rw [if_pos rfl] at H; exact H
     clear H
     have H := H1
     clear H1
     obtain rfl := Option.some.inj H
     go_wp2
     go_ret
     exact ⟨by first | rfl | (simp [errW_none, errW_some] <;> rfl) | (simp [*, errW_none, errW_some] <;> rfl), by repeat (first | (with_reducible first | exact HB.out | apply below_alloc | apply pw_below_drewN | apply below_drew1 | refine below_set ?_ GE316.out) | exact HB.out)⟩
    ·replace c19 := Bool.eq_false_iff.mpr c19
     subst c19
     have H1 : ((frame_lineError.f kj3 l0_5).bind fun t318 => (if t318 = 0 then ((frame_possible.f kj3 l0_6).bind fun t319 => (if t319 = true then (some 0) else (some 1))) else (some t318))) = some r := by rw [if_neg (show ¬ (false = true) by decide)] at H; exact H
     clear H
     have H := H1
     clear H1
     replace H := Option.bind_eq_some_iff.mp H
     obtain ⟨t318, A200, H⟩ := H
     replace H : (if t318 = 0 then ((frame_possible.f kj3 l0_6).bind fun t319 => (if t319 = true then (some 0) else (some 1))) else (some t318)) = some r := H
     have A20 := Aside0.mk A200
     clear A200
     by_cases c21 : t318 = 0
     ·rw [if_pos c21] at H
      have c21b0 : (t318 == 0) = true := beq_iff_eq.mpr c21
      have c21b1 : (t318 != 0) = false := bne_eq_false_iff_eq.mpr c21
      clear c21
      replace H := Option.bind_eq_some_iff.mp H
      obtain ⟨t319, A220, H⟩ := H
      replace H : (if t319 = true then (some 0) else (some 1)) = some r := H
      have A22 := Aside0.mk A220
      clear A220
      by_cases c23 : t319 = true
      ·subst c23
       have H1 : (some 0) = some r := by rw [if_pos rfl] at H; exact H
       clear H
       have H := H1
       clear H1
       obtain rfl := Option.some.inj H
       have hcz24_0 : wc.cell? ⟨gb316, 0, none⟩ = some (.int .i64 a0_0) := (blk_cell BK316.out 0).trans rfl
       have hcz24_1 : wc.cell? ⟨gb316, 1, none⟩ = some (.int .i64 a0_1) := (blk_cell BK316.out 1).trans rfl
       have hcz24_2 : wc.cell? ⟨gb316, 2, none⟩ = some (.int .i64 a0_2) := (blk_cell BK316.out 2).trans rfl
       have hcz24_3 : wc.cell? ⟨gb316, 3, none⟩ = some (.int .i64 a0_3) := (blk_cell BK316.out 3).trans rfl
       have hcz24_4 : wc.cell? ⟨gb316, 4, none⟩ = some (.int .i64 a0_4) := (blk_cell BK316.out 4).trans rfl
       have hcz24_5 : wc.cell? ⟨gb316, 5, none⟩ = some (.slice A0_5 l0_5.length c0_5) := (blk_cell BK316.out 5).trans rfl
       have hcz24_6 : wc.cell? ⟨gb316, 6, none⟩ = some (.slice A0_6 l0_6.length c0_6) := (blk_cell BK316.out 6).trans rfl
       have hfz24_0 := blk_frozen BK316.out 0
       have hfz24_1 := blk_frozen BK316.out 1
       have hfz24_2 := blk_frozen BK316.out 2
       have hfz24_3 := blk_frozen BK316.out 3
       have hfz24_4 := blk_frozen BK316.out 4
       have hfz24_5 := blk_frozen BK316.out 5
       have hfz24_6 := blk_frozen BK316.out 6
       go_wp2_with (first | ((with_reducible refine gate_callee (f := 43) rfl ?_); refine goesL_ (some 37) rfl rfl Tryd.func43 (by kernel_rfl) rfl #[.slice A0_5 l0_5.length c0_5] rfl (by (try simp only [List.map_toArray, List.map_cons, List.map_nil]); first | done | rfl | (simp only [List.length_drop, List.length_take]; rfl)) ?_; (with_reducible refine (frame_lineError.calls kj3 _ _ l0_5 t318 _ ?side1 ?side2 A20.out).mono ?_); (case side1 => repeat (first | exact (Kd.C_below HR0_5.out HB.out) | (with_reducible refine Kd.C_alloc ?_ _) | (with_reducible refine Kd.C_drewN ?_ _) | (with_reducible refine Kd.C_drew ?_))); (case side2 => exact HC0_5.out); rintro e w' ⟨rfl, ⟨nd, rfl⟩⟩; refine ⟨_, rfl, ?_⟩) | ((with_reducible refine gate_callee (f := 44) rfl ?_); refine goesL_ (some 43) rfl rfl Tryd.func44 (by kernel_rfl) rfl #[.slice A0_6 l0_6.length c0_6] rfl (by (try simp only [List.map_toArray, List.map_cons, List.map_nil]); first | done | rfl | (simp only [List.length_drop, List.length_take]; rfl)) ?_; (with_reducible refine (frame_possible.calls kj3 _ _ l0_6 true _ ?side1 ?side2 A22.out).mono ?_); (case side1 => repeat (first | exact (Kd.C_below HR0_6.out (by repeat (first | (with_reducible first | exact HB.out | apply below_alloc | apply pw_below_drewN | apply below_drew1 | refine below_set ?_ GE316.out) | exact HB.out))) | (with_reducible refine Kd.C_alloc ?_ _) | (with_reducible refine Kd.C_drewN ?_ _) | (with_reducible refine Kd.C_drew ?_))); (case side2 => exact HC0_6.out); rintro e w25 ⟨rfl, hb⟩; refine ⟨_, rfl, ?_⟩; have n0_ := Aside0.mk (blk_below (g := gb316) (o := .cells #[.int .i64 a0_0, .int .i64 a0_1, .int .i64 a0_2, .int .i64 a0_3, .int .i64 a0_4, .slice A0_5 l0_5.length c0_5, .slice A0_6 l0_6.length c0_6] 31 (0, 0)) (by (with_reducible repeat (first | refine blk_drewN ?_ _ | refine blk_drew ?_ | refine blk_alloc ?_ _)); exact BK316.out) hb); have n1_ := Aside0.mk (below_step (by repeat (first | (with_reducible first | exact HB.out | apply below_alloc | apply pw_below_drewN | apply below_drew1 | refine below_set ?_ GE316.out) | exact HB.out)) hb); clear BK316; clear HB; have BK316 := n0_; have HB := n1_; clear n0_ n1_; (try clear hb); (try clear hb2); (try clear hk); (try clear hi)))
       go_ret
       exact ⟨by first | rfl | (simp [errW_none, errW_some] <;> rfl) | (simp [*, errW_none, errW_some] <;> rfl), by repeat (first | (with_reducible first | exact HB.out | apply below_alloc | apply pw_below_drewN | apply below_drew1 | refine below_set ?_ GE316.out) | exact HB.out)⟩
      ·replace c23 := Bool.eq_false_iff.mpr c23
       subst c23
       have H1 : (some 1) = some r := by rw [if_neg (show ¬ (false = true) by decide)] at H; exact H
       clear H
       have H := H1
       clear H1
       obtain rfl := Option.some.inj H
       have hcz26_0 : wc.cell? ⟨gb316, 0, none⟩ = some (.int .i64 a0_0) := (blk_cell BK316.out 0).trans rfl
       have hcz26_1 : wc.cell? ⟨gb316, 1, none⟩ = some (.int .i64 a0_1) := (blk_cell BK316.out 1).trans rfl
       have hcz26_2 : wc.cell? ⟨gb316, 2, none⟩ = some (.int .i64 a0_2) := (blk_cell BK316.out 2).trans rfl
       have hcz26_3 : wc.cell? ⟨gb316, 3, none⟩ = some (.int .i64 a0_3) := (blk_cell BK316.out 3).trans rfl
       have hcz26_4 : wc.cell? ⟨gb316, 4, none⟩ = some (.int .i64 a0_4) := (blk_cell BK316.out 4).trans rfl
       have hcz26_5 : wc.cell? ⟨gb316, 5, none⟩ = some (.slice A0_5 l0_5.length c0_5) := (blk_cell BK316.out 5).trans rfl
       have hcz26_6 : wc.cell? ⟨gb316, 6, none⟩ = some (.slice A0_6 l0_6.length c0_6) := (blk_cell BK316.out 6).trans rfl
       have hfz26_0 := blk_frozen BK316.out 0
       have hfz26_1 := blk_frozen BK316.out 1
       have hfz26_2 := blk_frozen BK316.out 2
       have hfz26_3 := blk_frozen BK316.out 3
       have hfz26_4 := blk_frozen BK316.out 4
       have hfz26_5 := blk_frozen BK316.out 5
       have hfz26_6 := blk_frozen BK316.out 6
       go_wp2_with (first | ((with_reducible refine gate_callee (f := 43) rfl ?_); refine goesL_ (some 37) rfl rfl Tryd.func43 (by kernel_rfl) rfl #[.slice A0_5 l0_5.length c0_5] rfl (by (try simp only [List.map_toArray, List.map_cons, List.map_nil]); first | done | rfl | (simp only [List.length_drop, List.length_take]; rfl)) ?_; (with_reducible refine (frame_lineError.calls kj3 _ _ l0_5 t318 _ ?side1 ?side2 A20.out).mono ?_); (case side1 => repeat (first | exact (Kd.C_below HR0_5.out HB.out) | (with_reducible refine Kd.C_alloc ?_ _) | (with_reducible refine Kd.C_drewN ?_ _) | (with_reducible refine Kd.C_drew ?_))); (case side2 => exact HC0_5.out); rintro e w' ⟨rfl, ⟨nd, rfl⟩⟩; refine ⟨_, rfl, ?_⟩) | ((with_reducible refine gate_callee (f := 44) rfl ?_); refine goesL_ (some 43) rfl rfl Tryd.func44 (by kernel_rfl) rfl #[.slice A0_6 l0_6.length c0_6] rfl (by (try simp only [List.map_toArray, List.map_cons, List.map_nil]); first | done | rfl | (simp only [List.length_drop, List.length_take]; rfl)) ?_; (with_reducible refine (frame_possible.calls kj3 _ _ l0_6 false _ ?side1 ?side2 A22.out).mono ?_); (case side1 => repeat (first | exact (Kd.C_below HR0_6.out (by repeat (first | (with_reducible first | exact HB.out | apply below_alloc | apply pw_below_drewN | apply below_drew1 | refine below_set ?_ GE316.out) | exact HB.out))) | (with_reducible refine Kd.C_alloc ?_ _) | (with_reducible refine Kd.C_drewN ?_ _) | (with_reducible refine Kd.C_drew ?_))); (case side2 => exact HC0_6.out); rintro e w27 ⟨rfl, hb⟩; refine ⟨_, rfl, ?_⟩; have n0_ := Aside0.mk (blk_below (g := gb316) (o := .cells #[.int .i64 a0_0, .int .i64 a0_1, .int .i64 a0_2, .int .i64 a0_3, .int .i64 a0_4, .slice A0_5 l0_5.length c0_5, .slice A0_6 l0_6.length c0_6] 31 (0, 0)) (by (with_reducible repeat (first | refine blk_drewN ?_ _ | refine blk_drew ?_ | refine blk_alloc ?_ _)); exact BK316.out) hb); have n1_ := Aside0.mk (below_step (by repeat (first | (with_reducible first | exact HB.out | apply below_alloc | apply pw_below_drewN | apply below_drew1 | refine below_set ?_ GE316.out) | exact HB.out)) hb); clear BK316; clear HB; have BK316 := n0_; have HB := n1_; clear n0_ n1_; (try clear hb); (try clear hb2); (try clear hk); (try clear hi)))
       go_ret
       exact ⟨by first | rfl | (simp [errW_none, errW_some] <;> rfl) | (simp [*, errW_none, errW_some] <;> rfl), by repeat (first | (with_reducible first | exact HB.out | apply below_alloc | apply pw_below_drewN | apply below_drew1 | refine below_set ?_ GE316.out) | exact HB.out)⟩
     ·rw [if_neg c21] at H
      have c21b0 : (t318 == 0) = false := beq_eq_false_iff_ne.mpr c21
      have c21b1 : (t318 != 0) = true := bne_iff_ne.mpr c21
      obtain rfl := Option.some.inj H
      have hcz28_0 : wc.cell? ⟨gb316, 0, none⟩ = some (.int .i64 a0_0) := (blk_cell BK316.out 0).trans rfl
      have hcz28_1 : wc.cell? ⟨gb316, 1, none⟩ = some (.int .i64 a0_1) := (blk_cell BK316.out 1).trans rfl
      have hcz28_2 : wc.cell? ⟨gb316, 2, none⟩ = some (.int .i64 a0_2) := (blk_cell BK316.out 2).trans rfl
      have hcz28_3 : wc.cell? ⟨gb316, 3, none⟩ = some (.int .i64 a0_3) := (blk_cell BK316.out 3).trans rfl
      have hcz28_4 : wc.cell? ⟨gb316, 4, none⟩ = some (.int .i64 a0_4) := (blk_cell BK316.out 4).trans rfl
      have hcz28_5 : wc.cell? ⟨gb316, 5, none⟩ = some (.slice A0_5 l0_5.length c0_5) := (blk_cell BK316.out 5).trans rfl
      have hcz28_6 : wc.cell? ⟨gb316, 6, none⟩ = some (.slice A0_6 l0_6.length c0_6) := (blk_cell BK316.out 6).trans rfl
      have hfz28_0 := blk_frozen BK316.out 0
      have hfz28_1 := blk_frozen BK316.out 1
      have hfz28_2 := blk_frozen BK316.out 2
      have hfz28_3 := blk_frozen BK316.out 3
      have hfz28_4 := blk_frozen BK316.out 4
      have hfz28_5 := blk_frozen BK316.out 5
      have hfz28_6 := blk_frozen BK316.out 6
      go_wp2_with (first | ((with_reducible refine gate_callee (f := 43) rfl ?_); refine goesL_ (some 37) rfl rfl Tryd.func43 (by kernel_rfl) rfl #[.slice A0_5 l0_5.length c0_5] rfl (by (try simp only [List.map_toArray, List.map_cons, List.map_nil]); first | done | rfl | (simp only [List.length_drop, List.length_take]; rfl)) ?_; (with_reducible refine (frame_lineError.calls kj3 _ _ l0_5 t318 _ ?side1 ?side2 A20.out).mono ?_); (case side1 => repeat (first | exact (Kd.C_below HR0_5.out HB.out) | (with_reducible refine Kd.C_alloc ?_ _) | (with_reducible refine Kd.C_drewN ?_ _) | (with_reducible refine Kd.C_drew ?_))); (case side2 => exact HC0_5.out); rintro e w' ⟨rfl, ⟨nd, rfl⟩⟩; refine ⟨_, rfl, ?_⟩))
      go_ret
      exact ⟨by first | rfl | (simp [errW_none, errW_some] <;> rfl) | (simp [*, errW_none, errW_some] <;> rfl), by repeat (first | (with_reducible first | exact HB.out | apply below_alloc | apply pw_below_drewN | apply below_drew1 | refine below_set ?_ GE316.out) | exact HB.out)⟩
 ·replace c3 := Bool.eq_false_iff.mpr c3
  subst c3
  have H1 : (some 1) = some r := by rw [if_neg (show ¬ (false = true) by decide)] at H; exact H
  clear H
  have H := H1
  clear H1
  obtain rfl := Option.some.inj H
  go_enter Tryd.func28, Tryd.ntmps28
  go_wp2_with (first | ((with_reducible refine gate_dst (N := 1) rfl ?_); refine box_event ?hg (N := 1) ?hd (cs := #[.int .i64 a0_0, .int .i64 a0_1, .int .i64 a0_2, .int .i64 a0_3, .int .i64 a0_4, .slice A0_5 l0_5.length c0_5, .slice A0_6 l0_6.length c0_6]) (t := 31) ?hr ?_; (case hd => rfl); (case hg => rfl); (case hr => first | (go_simp; done) | (go_simp; rfl)); intro gb316 hg w29 hbox hb; have n0_ := Aside0.mk (below_step (by repeat (first | (with_reducible first | exact HB.out | apply below_alloc | apply pw_below_drewN | apply below_drew1) | exact HB.out)) hb); have n1_ := Aside0.mk (hbox); have n2_ := Aside0.mk ((by rw [hg]; exact (below_size (by repeat (first | (with_reducible first | exact HB.out | apply below_alloc | apply pw_below_drewN | apply below_drew1) | exact HB.out))) : w.heap.size ≤ gb316)); have n3_ := Aside0.mk ((by rw [hg]; exact (below_size (by repeat (first | (with_reducible first | exact HB.out | apply below_alloc | apply pw_below_drewN | apply below_drew1) | exact HB.out))) : w.heap.size ≤ gb316)); clear HB; have HB := n0_; have BK316 := n1_; have GW316 := n2_; have GE316 := n3_; clear n0_ n1_ n2_ n3_; clear hb hbox hg; have hcz30_0 : w29.cell? ⟨gb316, 0, none⟩ = some (.int .i64 a0_0) := (blk_cell BK316.out 0).trans rfl; have hcz30_1 : w29.cell? ⟨gb316, 1, none⟩ = some (.int .i64 a0_1) := (blk_cell BK316.out 1).trans rfl; have hcz30_2 : w29.cell? ⟨gb316, 2, none⟩ = some (.int .i64 a0_2) := (blk_cell BK316.out 2).trans rfl; have hcz30_3 : w29.cell? ⟨gb316, 3, none⟩ = some (.int .i64 a0_3) := (blk_cell BK316.out 3).trans rfl; have hcz30_4 : w29.cell? ⟨gb316, 4, none⟩ = some (.int .i64 a0_4) := (blk_cell BK316.out 4).trans rfl; have hcz30_5 : w29.cell? ⟨gb316, 5, none⟩ = some (.slice A0_5 l0_5.length c0_5) := (blk_cell BK316.out 5).trans rfl; have hcz30_6 : w29.cell? ⟨gb316, 6, none⟩ = some (.slice A0_6 l0_6.length c0_6) := (blk_cell BK316.out 6).trans rfl; have hfz30_0 := blk_frozen BK316.out 0; have hfz30_1 := blk_frozen BK316.out 1; have hfz30_2 := blk_frozen BK316.out 2; have hfz30_3 := blk_frozen BK316.out 3; have hfz30_4 := blk_frozen BK316.out 4; have hfz30_5 := blk_frozen BK316.out 5; have hfz30_6 := blk_frozen BK316.out 6) | ((with_reducible refine gate_callee (f := 52) rfl ?_); refine goesL_ (some 5) rfl rfl Tryd.func52 (by kernel_rfl) rfl #[.agg #[.int .i64 a0_0, .int .i64 a0_1, .int .i64 a0_2, .int .i64 a0_3, .int .i64 a0_4, .slice A0_5 l0_5.length c0_5, .slice A0_6 l0_6.length c0_6]] rfl (by (try simp only [List.map_toArray, List.map_cons, List.map_nil]); first | done | rfl | (simp only [List.length_drop, List.length_take]; rfl)) ?_; (with_reducible refine (frame_routed.calls k a0_0 a0_1 a0_2 a0_3 a0_4 _ _ l0_5 _ _ l0_6 false _ ?side1 ?side2 ?side3 ?side4 A2.out).mono ?_); (case side1 => repeat (first | exact (Kd.C_below HR0_5.out HB.out) | (with_reducible refine Kd.C_alloc ?_ _) | (with_reducible refine Kd.C_drewN ?_ _) | (with_reducible refine Kd.C_drew ?_))); (case side2 => exact HC0_5.out); (case side3 => repeat (first | exact (Kd.C_below HR0_6.out HB.out) | (with_reducible refine Kd.C_alloc ?_ _) | (with_reducible refine Kd.C_drewN ?_ _) | (with_reducible refine Kd.C_drew ?_))); (case side4 => exact HC0_6.out); rintro e w31 ⟨rfl, hb⟩; refine ⟨_, rfl, ?_⟩; have n0_ := Aside0.mk (blk_below (g := gb316) (o := .cells #[.int .i64 a0_0, .int .i64 a0_1, .int .i64 a0_2, .int .i64 a0_3, .int .i64 a0_4, .slice A0_5 l0_5.length c0_5, .slice A0_6 l0_6.length c0_6] 31 (0, 0)) (by (with_reducible repeat (first | refine blk_drewN ?_ _ | refine blk_drew ?_ | refine blk_alloc ?_ _)); exact BK316.out) hb); have n1_ := Aside0.mk (below_step (by repeat (first | (with_reducible first | exact HB.out | apply below_alloc | apply pw_below_drewN | apply below_drew1 | refine below_set ?_ GE316.out) | exact HB.out)) hb); clear BK316; clear HB; have BK316 := n0_; have HB := n1_; clear n0_ n1_; (try clear hb); (try clear hb2); (try clear hk); (try clear hi)))
  go_ret
  exact ⟨by first | rfl | (simp [errW_none, errW_some] <;> rfl) | (simp [*, errW_none, errW_some] <;> rfl), by repeat (first | (with_reducible first | exact HB.out | apply below_alloc | apply pw_below_drewN | apply below_drew1 | refine below_set ?_ GE316.out) | exact HB.out)⟩
def IsS88 (w0 W : World) (g : Nat) (f0 : ByteArray) (f1 : Int) (f2 : Int) (f3 : Int) : Prop := W.heap[g]? = some (.cells #[.string f0, .int .i64 f1, .int .i64 f2, .int .i64 f3] 88 (0, 0)) ∧ w0.heap.size ≤ g
theorem IsS88.grown {w0 W : World} {g : Nat} {f0 : ByteArray} {f1 : Int} {f2 : Int} {f3 : Int} {W1 : World} {row : Option Nat} (h : IsS88 w0 W g f0 f1 f2 f3) (hw : W.grownBy W1 row) (hne : some g ≠ row) : IsS88 w0 W1 g f0 f1 f2 f3 := by
 obtain ⟨hb, hg⟩ := h
 exact ⟨blk_grown hb hw hne, hg⟩
theorem IsS88.kept {w0 W : World} {g : Nat} {f0 : ByteArray} {f1 : Int} {f2 : Int} {f3 : Int} {W1 : World} {S : Nat → Prop} (h : IsS88 w0 W g f0 f1 f2 f3) (hk : Kept W W1 S) (hne : ¬ S g) : IsS88 w0 W1 g f0 f1 f2 f3 := by
 obtain ⟨hb, hg⟩ := h
 exact ⟨blk_kept hb hk hne, hg⟩
theorem IsS88.below {w0 W : World} {g : Nat} {f0 : ByteArray} {f1 : Int} {f2 : Int} {f3 : Int} {W1 : World} (h : IsS88 w0 W g f0 f1 f2 f3) (hw : Below W.heap.size W W1) : IsS88 w0 W1 g f0 f1 f2 f3 := h.grown (grown_of_below hw none) (by simp)
theorem IsS88.alloc {w0 W : World} {g : Nat} {f0 : ByteArray} {f1 : Int} {f2 : Int} {f3 : Int} (h : IsS88 w0 W g f0 f1 f2 f3) (o : Obj) : IsS88 w0 (W.alloc o) g f0 f1 f2 f3 := h.below (below_alloc (Below.refl _ _) o)
theorem IsS88.drewN {w0 W : World} {g : Nat} {f0 : ByteArray} {f1 : Int} {f2 : Int} {f3 : Int} (h : IsS88 w0 W g f0 f1 f2 f3) (m : Nat) : IsS88 w0 (W.drewN m) g f0 f1 f2 f3 := h
theorem IsS88.drew {w0 W : World} {g : Nat} {f0 : ByteArray} {f1 : Int} {f2 : Int} {f3 : Int} (h : IsS88 w0 W g f0 f1 f2 f3) : IsS88 w0 W.drew g f0 f1 f2 f3 := h
theorem IsS88.at_ {w0 W : World} {g : Nat} {f0 : ByteArray} {f1 : Int} {f2 : Int} {f3 : Int} {w' : World} {m : Nat} (hq : W.drewN m = w') (h : IsS88 w0 W g f0 f1 f2 f3) : IsS88 w0 w' g f0 f1 f2 f3 := by subst hq; exact IsS88.drewN h m
theorem IsS88.apart {w0 W : World} {g : Nat} {f0 : ByteArray} {f1 : Int} {f2 : Int} {f3 : Int} {α : Type} {d : Kd α} {e : Nat} {base : Nat} {ok : Nat → Prop} {v : Value} {xs : List α} (h : IsS88 w0 W g f0 f1 f2 f3) (ho : d.R e W base ok v xs) (ht : ∀ q, q ∈ e :: d.E → q ≠ 88) : d.R e W base (fun k => ok k ∧ k ≠ g) v xs := by
 obtain ⟨hb, hg⟩ := h
 exact Kd.R_types ho hb ht
theorem IsS88.own_ne {w0 W : World} {g : Nat} {f0 : ByteArray} {f1 : Int} {f2 : Int} {f3 : Int} {α : Type} {d : Kd α} {e : Nat} {base : Nat} {ok : Nat → Prop} {v : Value} {xs : List α} (h : IsS88 w0 W g f0 f1 f2 f3) (ho : d.R e W base ok v xs) (ht : e ≠ 88) : some g ≠ v.ownBlock := by
 obtain ⟨hb, hg⟩ := h
 exact Kd.R_ne ho hb ht
theorem IsS88.lt {w0 W : World} {g : Nat} {f0 : ByteArray} {f1 : Int} {f2 : Int} {f3 : Int} (h : IsS88 w0 W g f0 f1 f2 f3) : g < W.heap.size := by
 obtain ⟨hb, hg⟩ := h
 exact blk_lt hb
theorem IsS88.ge {w0 W : World} {g : Nat} {f0 : ByteArray} {f1 : Int} {f2 : Int} {f3 : Int} (h : IsS88 w0 W g f0 f1 f2 f3) : w0.heap.size ≤ g := by
 obtain ⟨hb, hg⟩ := h
 exact hg
theorem IsS88.ne_blk {w0 W : World} {g : Nat} {f0 : ByteArray} {f1 : Int} {f2 : Int} {f3 : Int} {a : Nat} {cs : Array Value} {t : TypeId} {fr : Nat × Nat} (h : IsS88 w0 W g f0 f1 f2 f3) (hb2 : W.heap[a]? = some (.cells cs t fr)) (ht : t ≠ 88) : g ≠ a := by
 obtain ⟨hb, hg⟩ := h
 rintro rfl
 rw [hb] at hb2
 injection hb2 with hb2
 injection hb2 with _ ht2
 exact ht ht2.symm
theorem IsS88.far {w0 W : World} {g : Nat} {f0 : ByteArray} {f1 : Int} {f2 : Int} {f3 : Int} {p : Addr} (h : IsS88 w0 W g f0 f1 f2 f3) (hne : g ≠ p.block) (u : Value) : IsS88 w0 (W.setCell p u) g f0 f1 f2 f3 := by
 obtain ⟨hb, hg⟩ := h
 exact ⟨blk_far hb hne u, hg⟩
theorem cellS88_0 {W : World} {g : Nat} {f0 : ByteArray} {f1 : Int} {f2 : Int} {f3 : Int} (h : W.heap[g]? = some (.cells #[.string f0, .int .i64 f1, .int .i64 f2, .int .i64 f3] 88 (0, 0))) : W.cell? ⟨g, 0, none⟩ = some (.string f0) := (blk_cell h 0).trans rfl
theorem IsS88.set_0 {w0 W : World} {g : Nat} {f0 : ByteArray} {f1 : Int} {f2 : Int} {f3 : Int} (h : IsS88 w0 W g f0 f1 f2 f3) (x : ByteArray) : IsS88 w0 (W.setCell ⟨g, 0, none⟩ (.string x)) g x f1 f2 f3 := by
 obtain ⟨hb, hg⟩ := h
 exact ⟨by simpa using blk_set hb 0 (.string x), hg⟩
theorem cellS88_1 {W : World} {g : Nat} {f0 : ByteArray} {f1 : Int} {f2 : Int} {f3 : Int} (h : W.heap[g]? = some (.cells #[.string f0, .int .i64 f1, .int .i64 f2, .int .i64 f3] 88 (0, 0))) : W.cell? ⟨g, 1, none⟩ = some (.int .i64 f1) := (blk_cell h 1).trans rfl
theorem IsS88.set_1 {w0 W : World} {g : Nat} {f0 : ByteArray} {f1 : Int} {f2 : Int} {f3 : Int} (h : IsS88 w0 W g f0 f1 f2 f3) (x : Int) : IsS88 w0 (W.setCell ⟨g, 1, none⟩ (.int .i64 x)) g f0 x f2 f3 := by
 obtain ⟨hb, hg⟩ := h
 exact ⟨by simpa using blk_set hb 1 (.int .i64 x), hg⟩
theorem cellS88_2 {W : World} {g : Nat} {f0 : ByteArray} {f1 : Int} {f2 : Int} {f3 : Int} (h : W.heap[g]? = some (.cells #[.string f0, .int .i64 f1, .int .i64 f2, .int .i64 f3] 88 (0, 0))) : W.cell? ⟨g, 2, none⟩ = some (.int .i64 f2) := (blk_cell h 2).trans rfl
theorem IsS88.set_2 {w0 W : World} {g : Nat} {f0 : ByteArray} {f1 : Int} {f2 : Int} {f3 : Int} (h : IsS88 w0 W g f0 f1 f2 f3) (x : Int) : IsS88 w0 (W.setCell ⟨g, 2, none⟩ (.int .i64 x)) g f0 f1 x f3 := by
 obtain ⟨hb, hg⟩ := h
 exact ⟨by simpa using blk_set hb 2 (.int .i64 x), hg⟩
theorem cellS88_3 {W : World} {g : Nat} {f0 : ByteArray} {f1 : Int} {f2 : Int} {f3 : Int} (h : W.heap[g]? = some (.cells #[.string f0, .int .i64 f1, .int .i64 f2, .int .i64 f3] 88 (0, 0))) : W.cell? ⟨g, 3, none⟩ = some (.int .i64 f3) := (blk_cell h 3).trans rfl
theorem IsS88.set_3 {w0 W : World} {g : Nat} {f0 : ByteArray} {f1 : Int} {f2 : Int} {f3 : Int} (h : IsS88 w0 W g f0 f1 f2 f3) (x : Int) : IsS88 w0 (W.setCell ⟨g, 3, none⟩ (.int .i64 x)) g f0 f1 f2 x := by
 obtain ⟨hb, hg⟩ := h
 exact ⟨by simpa using blk_set hb 3 (.int .i64 x), hg⟩
def encode_Reader_Fail.f (s0_0 : ByteArray) (s0_1 : Int) (s0_2 : Int) (s0_3 : Int) : Option (ByteArray × Int × Int × Int) := if s0_3 = 0 then (some (s0_0, s0_1, s0_2, 2)) else (some (s0_0, s0_1, s0_2, s0_3))
set_option maxHeartbeats 8000000 in
set_option maxRecDepth 100000 in
theorem encode_Reader_Fail.calls (g : Nat) (s0_0 : ByteArray) (s0_1 : Int) (s0_2 : Int) (s0_3 : Int) (r1 : ByteArray) (r2 : Int) (r3 : Int) (r4 : Int) (w0 w : World) (hI : IsS88 w0 w g s0_0 s0_1 s0_2 s0_3) (hB : Below w0.heap.size w0 w) (h : encode_Reader_Fail.f s0_0 s0_1 s0_2 s0_3 = some (r1, r2, r3, r4)) :
  Calls Tryd.prog 68 #[.pointer (some ⟨g, 0, none⟩)] w fun e w' => e = .returned (.tuple #[]) ∧ IsS88 w0 w' g r1 r2 r3 r4 ∧ Below w0.heap.size w0 w' ∧ KeepBut w w' g none := by
 have HI0 := Aside0.mk hI
 have HK := Aside0.mk (KeepBut.refl w g none)
 have HL := Aside0.mk hB.size
 clear hI
 have HW0 := Aside0.mk hB.size
 have HB := Aside0.mk hB
 clear hB
 have H : (if s0_3 = 0 then (some (s0_0, s0_1, s0_2, 2)) else (some (s0_0, s0_1, s0_2, s0_3))) = some (r1, r2, r3, r4) := h
 clear h
 by_cases c2 : s0_3 = 0
 ·rw [if_pos c2] at H
  have c2b0 : (s0_3 == 0) = true := beq_iff_eq.mpr c2
  have c2b1 : (s0_3 != 0) = false := bne_eq_false_iff_eq.mpr c2
  clear c2
  simp only [Option.some.injEq, Prod.mk.injEq] at H
  obtain ⟨rfl, rfl, rfl, rfl⟩ := H
  obtain ⟨HGz3, hgz3⟩ := HI0.out
  have hcz3_0 := cellS88_0 HGz3
  have hcz3_1 := cellS88_1 HGz3
  have hcz3_2 := cellS88_2 HGz3
  have hcz3_3 := cellS88_3 HGz3
  have hfz3_0 := blk_frozen HGz3 0
  have hfz3_1 := blk_frozen HGz3 1
  have hfz3_2 := blk_frozen HGz3 2
  have hfz3_3 := blk_frozen HGz3 3
  clear HGz3 hgz3
  go_enter Tryd.func68, Tryd.ntmps68
  go_wp2
  first | go_end0 | ((try simp only [Exit.inBlock, Exit.then]); refine bodyPost_ret (results_none rfl _ _ _) rfl ?_)
  exact ⟨by first | rfl | (simp [errW_none, errW_some] <;> rfl) | (simp [*, errW_none, errW_some] <;> rfl), by repeat (first | (with_reducible first | exact HI0.out | apply IsS88.alloc | apply IsS88.drewN | apply IsS88.drew | apply IsS88.set_0 | apply IsS88.set_1 | apply IsS88.set_2 | apply IsS88.set_3) | exact HI0.out), by repeat (first | (with_reducible first | exact HB.out | apply below_alloc | apply pw_below_drewN | apply below_drew1 | refine below_set ?_ (IsS88.ge HI0.out)) | exact HB.out), by repeat (first | (with_reducible first | exact HK.out | apply KeepBut.set_ | apply keep_drewN | apply keep_drew | apply keep_alloc) | exact HK.out)⟩
 ·rw [if_neg c2] at H
  have c2b0 : (s0_3 == 0) = false := beq_eq_false_iff_ne.mpr c2
  have c2b1 : (s0_3 != 0) = true := bne_iff_ne.mpr c2
  simp only [Option.some.injEq, Prod.mk.injEq] at H
  obtain ⟨rfl, rfl, rfl, rfl⟩ := H
  obtain ⟨HGz4, hgz4⟩ := HI0.out
  have hcz4_0 := cellS88_0 HGz4
  have hcz4_1 := cellS88_1 HGz4
  have hcz4_2 := cellS88_2 HGz4
  have hcz4_3 := cellS88_3 HGz4
  have hfz4_0 := blk_frozen HGz4 0
  have hfz4_1 := blk_frozen HGz4 1
  have hfz4_2 := blk_frozen HGz4 2
  have hfz4_3 := blk_frozen HGz4 3
  clear HGz4 hgz4
  go_enter Tryd.func68, Tryd.ntmps68
  go_wp2
  first | go_end0 | ((try simp only [Exit.inBlock, Exit.then]); refine bodyPost_ret (results_none rfl _ _ _) rfl ?_)
  exact ⟨by first | rfl | (simp [errW_none, errW_some] <;> rfl) | (simp [*, errW_none, errW_some] <;> rfl), by repeat (first | (with_reducible first | exact HI0.out | apply IsS88.alloc | apply IsS88.drewN | apply IsS88.drew | apply IsS88.set_0 | apply IsS88.set_1 | apply IsS88.set_2 | apply IsS88.set_3) | exact HI0.out), by repeat (first | (with_reducible first | exact HB.out | apply below_alloc | apply pw_below_drewN | apply below_drew1 | refine below_set ?_ (IsS88.ge HI0.out)) | exact HB.out), by repeat (first | (with_reducible first | exact HK.out | apply KeepBut.set_ | apply keep_drewN | apply keep_drew | apply keep_alloc) | exact HK.out)⟩
def encode_Reader_head.f (s0_0 : ByteArray) (s0_1 : Int) (s0_2 : Int) (s0_3 : Int) (a1 : Int) (a2 : Bool) (a3 : Int) : Option (ByteArray × Int × Int × Int) := if s0_3 = 0 then (if a2 = true then (if s0_1 ≥ (s0_0.size : Int) then ((encode_Reader_Fail.f s0_0 s0_1 s0_2 s0_3).bind fun bt320 => (some (bt320.1, bt320.2.1, bt320.2.2.1, bt320.2.2.2))) else (if 0 ≤ s0_1 then (if s0_1 < (s0_0.size : Int) then (if (bt s0_0 s0_1) = a1 then (some (s0_0, wrap64 (s0_1 + 1), wrap64 (s0_2 + a3), s0_3)) else ((encode_Reader_Fail.f s0_0 s0_1 s0_2 s0_3).bind fun bt324 => (some (bt324.1, bt324.2.1, bt324.2.2.1, bt324.2.2.2)))) else (none)) else (none))) else ((encode_Reader_Fail.f s0_0 s0_1 s0_2 s0_3).bind fun bt328 => (some (bt328.1, bt328.2.1, bt328.2.2.1, bt328.2.2.2)))) else (some (s0_0, s0_1, s0_2, s0_3))
set_option maxHeartbeats 8000000 in
set_option maxRecDepth 100000 in
theorem encode_Reader_head.calls (g : Nat) (s0_0 : ByteArray) (s0_1 : Int) (s0_2 : Int) (s0_3 : Int) (a1 : Int) (a2 : Bool) (a3 : Int) (r1 : ByteArray) (r2 : Int) (r3 : Int) (r4 : Int) (w0 w : World) (hI : IsS88 w0 w g s0_0 s0_1 s0_2 s0_3) (hB : Below w0.heap.size w0 w) (h : encode_Reader_head.f s0_0 s0_1 s0_2 s0_3 a1 a2 a3 = some (r1, r2, r3, r4)) :
  Calls Tryd.prog 56 #[.pointer (some ⟨g, 0, none⟩), .int .u8 a1, .bool a2, .int .i64 a3] w fun e w' => e = .returned (.tuple #[]) ∧ IsS88 w0 w' g r1 r2 r3 r4 ∧ Below w0.heap.size w0 w' ∧ KeepBut w w' g none := by
 have HI0 := Aside0.mk hI
 have HK := Aside0.mk (KeepBut.refl w g none)
 have HL := Aside0.mk hB.size
 clear hI
 have HW0 := Aside0.mk hB.size
 have HB := Aside0.mk hB
 clear hB
 have H : (if s0_3 = 0 then (if a2 = true then (if s0_1 ≥ (s0_0.size : Int) then ((encode_Reader_Fail.f s0_0 s0_1 s0_2 s0_3).bind fun bt320 => (some (bt320.1, bt320.2.1, bt320.2.2.1, bt320.2.2.2))) else (if 0 ≤ s0_1 then (if s0_1 < (s0_0.size : Int) then (if (bt s0_0 s0_1) = a1 then (some (s0_0, wrap64 (s0_1 + 1), wrap64 (s0_2 + a3), s0_3)) else ((encode_Reader_Fail.f s0_0 s0_1 s0_2 s0_3).bind fun bt324 => (some (bt324.1, bt324.2.1, bt324.2.2.1, bt324.2.2.2)))) else (none)) else (none))) else ((encode_Reader_Fail.f s0_0 s0_1 s0_2 s0_3).bind fun bt328 => (some (bt328.1, bt328.2.1, bt328.2.2.1, bt328.2.2.2)))) else (some (s0_0, s0_1, s0_2, s0_3))) = some (r1, r2, r3, r4) := h
 clear h
 by_cases c5 : s0_3 = 0
 ·rw [if_pos c5] at H
  have c5b0 : (s0_3 == 0) = true := beq_iff_eq.mpr c5
  have c5b1 : (s0_3 != 0) = false := bne_eq_false_iff_eq.mpr c5
  clear c5
  by_cases c6 : a2 = true
  ·subst c6
   have H1 : (if s0_1 ≥ (s0_0.size : Int) then ((encode_Reader_Fail.f s0_0 s0_1 s0_2 s0_3).bind fun bt320 => (some (bt320.1, bt320.2.1, bt320.2.2.1, bt320.2.2.2))) else (if 0 ≤ s0_1 then (if s0_1 < (s0_0.size : Int) then (if (bt s0_0 s0_1) = a1 then (some (s0_0, wrap64 (s0_1 + 1), wrap64 (s0_2 + a3), s0_3)) else ((encode_Reader_Fail.f s0_0 s0_1 s0_2 s0_3).bind fun bt324 => (some (bt324.1, bt324.2.1, bt324.2.2.1, bt324.2.2.2)))) else (none)) else (none))) = some (r1, r2, r3, r4) := by rw [if_pos rfl] at H; exact H
   clear H
   have H := H1
   clear H1
   by_cases c7 : s0_1 ≥ (s0_0.size : Int)
   ·rw [if_pos c7] at H
    have c7b0 : decide ((s0_0.size : Int) ≤ s0_1) = true := decide_eq_true c7
    clear c7
    replace H := Option.bind_eq_some_iff.mp H
    obtain ⟨⟨t320, t321, t322, t323⟩, A80, H⟩ := H
    replace H : (some (t320, t321, t322, t323)) = some (r1, r2, r3, r4) := H
    have A8 := Aside0.mk A80
    clear A80
    simp only [Option.some.injEq, Prod.mk.injEq] at H
    obtain ⟨rfl, rfl, rfl, rfl⟩ := H
    obtain ⟨HGz9, hgz9⟩ := HI0.out
    have hcz9_0 := cellS88_0 HGz9
    have hcz9_1 := cellS88_1 HGz9
    have hcz9_2 := cellS88_2 HGz9
    have hcz9_3 := cellS88_3 HGz9
    have hfz9_0 := blk_frozen HGz9 0
    have hfz9_1 := blk_frozen HGz9 1
    have hfz9_2 := blk_frozen HGz9 2
    have hfz9_3 := blk_frozen HGz9 3
    clear HGz9 hgz9
    go_enter Tryd.func56, Tryd.ntmps56
    go_wp2_with (first | (go_at_call 68; (with_reducible refine (encode_Reader_Fail.calls g s0_0 s0_1 s0_2 s0_3 t320 t321 t322 t323 w0 _ ?side1 ?side2 A8.out).mono ?_); (case side1 => repeat (first | (with_reducible first | exact HI0.out | apply IsS88.alloc | apply IsS88.drewN | apply IsS88.drew | apply IsS88.set_0 | apply IsS88.set_1 | apply IsS88.set_2 | apply IsS88.set_3) | exact HI0.out)); (case side2 => repeat (first | (with_reducible first | exact HB.out | apply below_alloc | apply pw_below_drewN | apply below_drew1 | refine below_set ?_ (IsS88.ge HI0.out)) | exact HB.out)); rintro e w10 ⟨rfl, hi, hb, hk⟩; have n0_ := Aside0.mk (KeepBut.trans (by repeat (first | (with_reducible first | exact HK.out | apply KeepBut.set_ | apply keep_drewN | apply keep_drew | apply keep_alloc) | exact HK.out)) hk (.inl rfl)); have n1_ := Aside0.mk (hb); have n2_ := Aside0.mk (hi); clear HK; clear HB; clear HI0; have HK := n0_; have HB := n1_; have HI0 := n2_; clear n0_ n1_ n2_; (try clear hb); (try clear hb2); (try clear hk); (try clear hi)))
    repeat (go_quiet (first | (go_at_call 68; (with_reducible refine (encode_Reader_Fail.calls g s0_0 s0_1 s0_2 s0_3 t320 t321 t322 t323 w0 _ ?side1 ?side2 A8.out).mono ?_); (case side1 => repeat (first | (with_reducible first | exact HI0.out | apply IsS88.alloc | apply IsS88.drewN | apply IsS88.drew | apply IsS88.set_0 | apply IsS88.set_1 | apply IsS88.set_2 | apply IsS88.set_3) | exact HI0.out)); (case side2 => repeat (first | (with_reducible first | exact HB.out | apply below_alloc | apply pw_below_drewN | apply below_drew1 | refine below_set ?_ (IsS88.ge HI0.out)) | exact HB.out)); rintro e w10 ⟨rfl, hi, hb, hk⟩; have n0_ := Aside0.mk (KeepBut.trans (by repeat (first | (with_reducible first | exact HK.out | apply KeepBut.set_ | apply keep_drewN | apply keep_drew | apply keep_alloc) | exact HK.out)) hk (.inl rfl)); have n1_ := Aside0.mk (hb); have n2_ := Aside0.mk (hi); clear HK; clear HB; clear HI0; have HK := n0_; have HB := n1_; have HI0 := n2_; clear n0_ n1_ n2_; (try clear hb); (try clear hb2); (try clear hk); (try clear hi))); try go_wp2_with (first | (go_at_call 68; (with_reducible refine (encode_Reader_Fail.calls g s0_0 s0_1 s0_2 s0_3 t320 t321 t322 t323 w0 _ ?side1 ?side2 A8.out).mono ?_); (case side1 => repeat (first | (with_reducible first | exact HI0.out | apply IsS88.alloc | apply IsS88.drewN | apply IsS88.drew | apply IsS88.set_0 | apply IsS88.set_1 | apply IsS88.set_2 | apply IsS88.set_3) | exact HI0.out)); (case side2 => repeat (first | (with_reducible first | exact HB.out | apply below_alloc | apply pw_below_drewN | apply below_drew1 | refine below_set ?_ (IsS88.ge HI0.out)) | exact HB.out)); rintro e w10 ⟨rfl, hi, hb, hk⟩; have n0_ := Aside0.mk (KeepBut.trans (by repeat (first | (with_reducible first | exact HK.out | apply KeepBut.set_ | apply keep_drewN | apply keep_drew | apply keep_alloc) | exact HK.out)) hk (.inl rfl)); have n1_ := Aside0.mk (hb); have n2_ := Aside0.mk (hi); clear HK; clear HB; clear HI0; have HK := n0_; have HB := n1_; have HI0 := n2_; clear n0_ n1_ n2_; (try clear hb); (try clear hb2); (try clear hk); (try clear hi))))
    first | go_end0 | ((try simp only [Exit.inBlock, Exit.then]); refine bodyPost_ret (results_none rfl _ _ _) rfl ?_)
    exact ⟨by first | rfl | (simp [errW_none, errW_some] <;> rfl) | (simp [*, errW_none, errW_some] <;> rfl), by repeat (first | (with_reducible first | exact HI0.out | apply IsS88.alloc | apply IsS88.drewN | apply IsS88.drew | apply IsS88.set_0 | apply IsS88.set_1 | apply IsS88.set_2 | apply IsS88.set_3) | exact HI0.out), by repeat (first | (with_reducible first | exact HB.out | apply below_alloc | apply pw_below_drewN | apply below_drew1 | refine below_set ?_ (IsS88.ge HI0.out)) | exact HB.out), by repeat (first | (with_reducible first | exact HK.out | apply KeepBut.set_ | apply keep_drewN | apply keep_drew | apply keep_alloc) | exact HK.out)⟩
   ·rw [if_neg c7] at H
    have c7b0 : decide ((s0_0.size : Int) ≤ s0_1) = false := decide_eq_false c7
    clear c7
    by_cases c11 : 0 ≤ s0_1
    ·rw [if_pos c11] at H
     have c11b0 : decide (0 ≤ s0_1) = true := decide_eq_true c11
     clear c11
     by_cases c12 : s0_1 < (s0_0.size : Int)
     ·rw [if_pos c12] at H
      have c12b0 : decide (s0_1 < (s0_0.size : Int)) = true := decide_eq_true c12
      clear c12
      by_cases c14 : (bt s0_0 s0_1) = a1
      ·rw [if_pos c14] at H
       have c14b0 : ((bt s0_0 s0_1) == a1) = true := beq_iff_eq.mpr c14
       have c14b1 : ((bt s0_0 s0_1) != a1) = false := bne_eq_false_iff_eq.mpr c14
       clear c14
       simp only [Option.some.injEq, Prod.mk.injEq] at H
       obtain ⟨rfl, rfl, rfl, rfl⟩ := H
       obtain ⟨HGz15, hgz15⟩ := HI0.out
       have hcz15_0 := cellS88_0 HGz15
       have hcz15_1 := cellS88_1 HGz15
       have hcz15_2 := cellS88_2 HGz15
       have hcz15_3 := cellS88_3 HGz15
       have hfz15_0 := blk_frozen HGz15 0
       have hfz15_1 := blk_frozen HGz15 1
       have hfz15_2 := blk_frozen HGz15 2
       have hfz15_3 := blk_frozen HGz15 3
       clear HGz15 hgz15
       have p13 : 0 ≤ (s0_1 : Int) := of_decide_eq_true (by first | (with_reducible assumption) | assumption)
       have q13 : s0_1 < (s0_0.size : Int) := of_decide_eq_true (by first | (with_reducible assumption) | assumption)
       have hx13 := bt_at s0_0 s0_1
       replace p13 := eq_true p13
       replace q13 := eq_true q13
       go_enter Tryd.func56, Tryd.ntmps56
       go_wp2
       repeat (go_quiet (fail); try go_wp2)
       first | go_end0 | ((try simp only [Exit.inBlock, Exit.then]); refine bodyPost_ret (results_none rfl _ _ _) rfl ?_)
       exact ⟨by first | rfl | (simp [errW_none, errW_some] <;> rfl) | (simp [*, errW_none, errW_some] <;> rfl), by repeat (first | (with_reducible first | exact HI0.out | apply IsS88.alloc | apply IsS88.drewN | apply IsS88.drew | apply IsS88.set_0 | apply IsS88.set_1 | apply IsS88.set_2 | apply IsS88.set_3) | exact HI0.out), by repeat (first | (with_reducible first | exact HB.out | apply below_alloc | apply pw_below_drewN | apply below_drew1 | refine below_set ?_ (IsS88.ge HI0.out)) | exact HB.out), by repeat (first | (with_reducible first | exact HK.out | apply KeepBut.set_ | apply keep_drewN | apply keep_drew | apply keep_alloc) | exact HK.out)⟩
      ·rw [if_neg c14] at H
       have c14b0 : ((bt s0_0 s0_1) == a1) = false := beq_eq_false_iff_ne.mpr c14
       have c14b1 : ((bt s0_0 s0_1) != a1) = true := bne_iff_ne.mpr c14
       replace H := Option.bind_eq_some_iff.mp H
       obtain ⟨⟨t324, t325, t326, t327⟩, A160, H⟩ := H
       replace H : (some (t324, t325, t326, t327)) = some (r1, r2, r3, r4) := H
       have A16 := Aside0.mk A160
       clear A160
       simp only [Option.some.injEq, Prod.mk.injEq] at H
       obtain ⟨rfl, rfl, rfl, rfl⟩ := H
       obtain ⟨HGz17, hgz17⟩ := HI0.out
       have hcz17_0 := cellS88_0 HGz17
       have hcz17_1 := cellS88_1 HGz17
       have hcz17_2 := cellS88_2 HGz17
       have hcz17_3 := cellS88_3 HGz17
       have hfz17_0 := blk_frozen HGz17 0
       have hfz17_1 := blk_frozen HGz17 1
       have hfz17_2 := blk_frozen HGz17 2
       have hfz17_3 := blk_frozen HGz17 3
       clear HGz17 hgz17
       have p13 : 0 ≤ (s0_1 : Int) := of_decide_eq_true (by first | (with_reducible assumption) | assumption)
       have q13 : s0_1 < (s0_0.size : Int) := of_decide_eq_true (by first | (with_reducible assumption) | assumption)
       have hx13 := bt_at s0_0 s0_1
       replace p13 := eq_true p13
       replace q13 := eq_true q13
       go_enter Tryd.func56, Tryd.ntmps56
       go_wp2_with (first | (go_at_call 68; (with_reducible refine (encode_Reader_Fail.calls g s0_0 s0_1 s0_2 s0_3 t324 t325 t326 t327 w0 _ ?side1 ?side2 A16.out).mono ?_); (case side1 => repeat (first | (with_reducible first | exact HI0.out | apply IsS88.alloc | apply IsS88.drewN | apply IsS88.drew | apply IsS88.set_0 | apply IsS88.set_1 | apply IsS88.set_2 | apply IsS88.set_3) | exact HI0.out)); (case side2 => repeat (first | (with_reducible first | exact HB.out | apply below_alloc | apply pw_below_drewN | apply below_drew1 | refine below_set ?_ (IsS88.ge HI0.out)) | exact HB.out)); rintro e w18 ⟨rfl, hi, hb, hk⟩; have n0_ := Aside0.mk (KeepBut.trans (by repeat (first | (with_reducible first | exact HK.out | apply KeepBut.set_ | apply keep_drewN | apply keep_drew | apply keep_alloc) | exact HK.out)) hk (.inl rfl)); have n1_ := Aside0.mk (hb); have n2_ := Aside0.mk (hi); clear HK; clear HB; clear HI0; have HK := n0_; have HB := n1_; have HI0 := n2_; clear n0_ n1_ n2_; (try clear hb); (try clear hb2); (try clear hk); (try clear hi)))
       repeat (go_quiet (first | (go_at_call 68; (with_reducible refine (encode_Reader_Fail.calls g s0_0 s0_1 s0_2 s0_3 t324 t325 t326 t327 w0 _ ?side1 ?side2 A16.out).mono ?_); (case side1 => repeat (first | (with_reducible first | exact HI0.out | apply IsS88.alloc | apply IsS88.drewN | apply IsS88.drew | apply IsS88.set_0 | apply IsS88.set_1 | apply IsS88.set_2 | apply IsS88.set_3) | exact HI0.out)); (case side2 => repeat (first | (with_reducible first | exact HB.out | apply below_alloc | apply pw_below_drewN | apply below_drew1 | refine below_set ?_ (IsS88.ge HI0.out)) | exact HB.out)); rintro e w18 ⟨rfl, hi, hb, hk⟩; have n0_ := Aside0.mk (KeepBut.trans (by repeat (first | (with_reducible first | exact HK.out | apply KeepBut.set_ | apply keep_drewN | apply keep_drew | apply keep_alloc) | exact HK.out)) hk (.inl rfl)); have n1_ := Aside0.mk (hb); have n2_ := Aside0.mk (hi); clear HK; clear HB; clear HI0; have HK := n0_; have HB := n1_; have HI0 := n2_; clear n0_ n1_ n2_; (try clear hb); (try clear hb2); (try clear hk); (try clear hi))); try go_wp2_with (first | (go_at_call 68; (with_reducible refine (encode_Reader_Fail.calls g s0_0 s0_1 s0_2 s0_3 t324 t325 t326 t327 w0 _ ?side1 ?side2 A16.out).mono ?_); (case side1 => repeat (first | (with_reducible first | exact HI0.out | apply IsS88.alloc | apply IsS88.drewN | apply IsS88.drew | apply IsS88.set_0 | apply IsS88.set_1 | apply IsS88.set_2 | apply IsS88.set_3) | exact HI0.out)); (case side2 => repeat (first | (with_reducible first | exact HB.out | apply below_alloc | apply pw_below_drewN | apply below_drew1 | refine below_set ?_ (IsS88.ge HI0.out)) | exact HB.out)); rintro e w18 ⟨rfl, hi, hb, hk⟩; have n0_ := Aside0.mk (KeepBut.trans (by repeat (first | (with_reducible first | exact HK.out | apply KeepBut.set_ | apply keep_drewN | apply keep_drew | apply keep_alloc) | exact HK.out)) hk (.inl rfl)); have n1_ := Aside0.mk (hb); have n2_ := Aside0.mk (hi); clear HK; clear HB; clear HI0; have HK := n0_; have HB := n1_; have HI0 := n2_; clear n0_ n1_ n2_; (try clear hb); (try clear hb2); (try clear hk); (try clear hi))))
       first | go_end0 | ((try simp only [Exit.inBlock, Exit.then]); refine bodyPost_ret (results_none rfl _ _ _) rfl ?_)
       exact ⟨by first | rfl | (simp [errW_none, errW_some] <;> rfl) | (simp [*, errW_none, errW_some] <;> rfl), by repeat (first | (with_reducible first | exact HI0.out | apply IsS88.alloc | apply IsS88.drewN | apply IsS88.drew | apply IsS88.set_0 | apply IsS88.set_1 | apply IsS88.set_2 | apply IsS88.set_3) | exact HI0.out), by repeat (first | (with_reducible first | exact HB.out | apply below_alloc | apply pw_below_drewN | apply below_drew1 | refine below_set ?_ (IsS88.ge HI0.out)) | exact HB.out), by repeat (first | (with_reducible first | exact HK.out | apply KeepBut.set_ | apply keep_drewN | apply keep_drew | apply keep_alloc) | exact HK.out)⟩
     ·rw [if_neg c12] at H
      exact absurd H (by simp)
    ·rw [if_neg c11] at H
     exact absurd H (by simp)
  ·replace c6 := Bool.eq_false_iff.mpr c6
   subst c6
   have H1 : ((encode_Reader_Fail.f s0_0 s0_1 s0_2 s0_3).bind fun bt328 => (some (bt328.1, bt328.2.1, bt328.2.2.1, bt328.2.2.2))) = some (r1, r2, r3, r4) := by rw [if_neg (show ¬ (false = true) by decide)] at H; exact H
   clear H
   have H := H1
   clear H1
   replace H := Option.bind_eq_some_iff.mp H
   obtain ⟨⟨t328, t329, t330, t331⟩, A190, H⟩ := H
   replace H : (some (t328, t329, t330, t331)) = some (r1, r2, r3, r4) := H
   have A19 := Aside0.mk A190
   clear A190
   simp only [Option.some.injEq, Prod.mk.injEq] at H
   obtain ⟨rfl, rfl, rfl, rfl⟩ := H
   obtain ⟨HGz20, hgz20⟩ := HI0.out
   have hcz20_0 := cellS88_0 HGz20
   have hcz20_1 := cellS88_1 HGz20
   have hcz20_2 := cellS88_2 HGz20
   have hcz20_3 := cellS88_3 HGz20
   have hfz20_0 := blk_frozen HGz20 0
   have hfz20_1 := blk_frozen HGz20 1
   have hfz20_2 := blk_frozen HGz20 2
   have hfz20_3 := blk_frozen HGz20 3
   clear HGz20 hgz20
   go_enter Tryd.func56, Tryd.ntmps56
   go_wp2_with (first | (go_at_call 68; (with_reducible refine (encode_Reader_Fail.calls g s0_0 s0_1 s0_2 s0_3 t328 t329 t330 t331 w0 _ ?side1 ?side2 A19.out).mono ?_); (case side1 => repeat (first | (with_reducible first | exact HI0.out | apply IsS88.alloc | apply IsS88.drewN | apply IsS88.drew | apply IsS88.set_0 | apply IsS88.set_1 | apply IsS88.set_2 | apply IsS88.set_3) | exact HI0.out)); (case side2 => repeat (first | (with_reducible first | exact HB.out | apply below_alloc | apply pw_below_drewN | apply below_drew1 | refine below_set ?_ (IsS88.ge HI0.out)) | exact HB.out)); rintro e w21 ⟨rfl, hi, hb, hk⟩; have n0_ := Aside0.mk (KeepBut.trans (by repeat (first | (with_reducible first | exact HK.out | apply KeepBut.set_ | apply keep_drewN | apply keep_drew | apply keep_alloc) | exact HK.out)) hk (.inl rfl)); have n1_ := Aside0.mk (hb); have n2_ := Aside0.mk (hi); clear HK; clear HB; clear HI0; have HK := n0_; have HB := n1_; have HI0 := n2_; clear n0_ n1_ n2_; (try clear hb); (try clear hb2); (try clear hk); (try clear hi)))
   repeat (go_quiet (first | (go_at_call 68; (with_reducible refine (encode_Reader_Fail.calls g s0_0 s0_1 s0_2 s0_3 t328 t329 t330 t331 w0 _ ?side1 ?side2 A19.out).mono ?_); (case side1 => repeat (first | (with_reducible first | exact HI0.out | apply IsS88.alloc | apply IsS88.drewN | apply IsS88.drew | apply IsS88.set_0 | apply IsS88.set_1 | apply IsS88.set_2 | apply IsS88.set_3) | exact HI0.out)); (case side2 => repeat (first | (with_reducible first | exact HB.out | apply below_alloc | apply pw_below_drewN | apply below_drew1 | refine below_set ?_ (IsS88.ge HI0.out)) | exact HB.out)); rintro e w21 ⟨rfl, hi, hb, hk⟩; have n0_ := Aside0.mk (KeepBut.trans (by repeat (first | (with_reducible first | exact HK.out | apply KeepBut.set_ | apply keep_drewN | apply keep_drew | apply keep_alloc) | exact HK.out)) hk (.inl rfl)); have n1_ := Aside0.mk (hb); have n2_ := Aside0.mk (hi); clear HK; clear HB; clear HI0; have HK := n0_; have HB := n1_; have HI0 := n2_; clear n0_ n1_ n2_; (try clear hb); (try clear hb2); (try clear hk); (try clear hi))); try go_wp2_with (first | (go_at_call 68; (with_reducible refine (encode_Reader_Fail.calls g s0_0 s0_1 s0_2 s0_3 t328 t329 t330 t331 w0 _ ?side1 ?side2 A19.out).mono ?_); (case side1 => repeat (first | (with_reducible first | exact HI0.out | apply IsS88.alloc | apply IsS88.drewN | apply IsS88.drew | apply IsS88.set_0 | apply IsS88.set_1 | apply IsS88.set_2 | apply IsS88.set_3) | exact HI0.out)); (case side2 => repeat (first | (with_reducible first | exact HB.out | apply below_alloc | apply pw_below_drewN | apply below_drew1 | refine below_set ?_ (IsS88.ge HI0.out)) | exact HB.out)); rintro e w21 ⟨rfl, hi, hb, hk⟩; have n0_ := Aside0.mk (KeepBut.trans (by repeat (first | (with_reducible first | exact HK.out | apply KeepBut.set_ | apply keep_drewN | apply keep_drew | apply keep_alloc) | exact HK.out)) hk (.inl rfl)); have n1_ := Aside0.mk (hb); have n2_ := Aside0.mk (hi); clear HK; clear HB; clear HI0; have HK := n0_; have HB := n1_; have HI0 := n2_; clear n0_ n1_ n2_; (try clear hb); (try clear hb2); (try clear hk); (try clear hi))))
   first | go_end0 | ((try simp only [Exit.inBlock, Exit.then]); refine bodyPost_ret (results_none rfl _ _ _) rfl ?_)
   exact ⟨by first | rfl | (simp [errW_none, errW_some] <;> rfl) | (simp [*, errW_none, errW_some] <;> rfl), by repeat (first | (with_reducible first | exact HI0.out | apply IsS88.alloc | apply IsS88.drewN | apply IsS88.drew | apply IsS88.set_0 | apply IsS88.set_1 | apply IsS88.set_2 | apply IsS88.set_3) | exact HI0.out), by repeat (first | (with_reducible first | exact HB.out | apply below_alloc | apply pw_below_drewN | apply below_drew1 | refine below_set ?_ (IsS88.ge HI0.out)) | exact HB.out), by repeat (first | (with_reducible first | exact HK.out | apply KeepBut.set_ | apply keep_drewN | apply keep_drew | apply keep_alloc) | exact HK.out)⟩
 ·rw [if_neg c5] at H
  have c5b0 : (s0_3 == 0) = false := beq_eq_false_iff_ne.mpr c5
  have c5b1 : (s0_3 != 0) = true := bne_iff_ne.mpr c5
  simp only [Option.some.injEq, Prod.mk.injEq] at H
  obtain ⟨rfl, rfl, rfl, rfl⟩ := H
  obtain ⟨HGz22, hgz22⟩ := HI0.out
  have hcz22_0 := cellS88_0 HGz22
  have hcz22_1 := cellS88_1 HGz22
  have hcz22_2 := cellS88_2 HGz22
  have hcz22_3 := cellS88_3 HGz22
  have hfz22_0 := blk_frozen HGz22 0
  have hfz22_1 := blk_frozen HGz22 1
  have hfz22_2 := blk_frozen HGz22 2
  have hfz22_3 := blk_frozen HGz22 3
  clear HGz22 hgz22
  go_enter Tryd.func56, Tryd.ntmps56
  go_wp2
  repeat (go_quiet (fail); try go_wp2)
  first | go_end0 | ((try simp only [Exit.inBlock, Exit.then]); refine bodyPost_ret (results_none rfl _ _ _) rfl ?_)
  exact ⟨by first | rfl | (simp [errW_none, errW_some] <;> rfl) | (simp [*, errW_none, errW_some] <;> rfl), by repeat (first | (with_reducible first | exact HI0.out | apply IsS88.alloc | apply IsS88.drewN | apply IsS88.drew | apply IsS88.set_0 | apply IsS88.set_1 | apply IsS88.set_2 | apply IsS88.set_3) | exact HI0.out), by repeat (first | (with_reducible first | exact HB.out | apply below_alloc | apply pw_below_drewN | apply below_drew1 | refine below_set ?_ (IsS88.ge HI0.out)) | exact HB.out), by repeat (first | (with_reducible first | exact HK.out | apply KeepBut.set_ | apply keep_drewN | apply keep_drew | apply keep_alloc) | exact HK.out)⟩
def encode_Reader_Open.f (s0_0 : ByteArray) (s0_1 : Int) (s0_2 : Int) (s0_3 : Int) : Option (ByteArray × Int × Int × Int) := (encode_Reader_head.f s0_0 s0_1 s0_2 s0_3 108 (decide (s0_2 < 32)) 1).bind fun bt332 => (some (bt332.1, bt332.2.1, bt332.2.2.1, bt332.2.2.2))
set_option maxHeartbeats 8000000 in
set_option maxRecDepth 100000 in
theorem encode_Reader_Open.calls (g : Nat) (s0_0 : ByteArray) (s0_1 : Int) (s0_2 : Int) (s0_3 : Int) (r1 : ByteArray) (r2 : Int) (r3 : Int) (r4 : Int) (w0 w : World) (hI : IsS88 w0 w g s0_0 s0_1 s0_2 s0_3) (hB : Below w0.heap.size w0 w) (h : encode_Reader_Open.f s0_0 s0_1 s0_2 s0_3 = some (r1, r2, r3, r4)) :
  Calls Tryd.prog 36 #[.pointer (some ⟨g, 0, none⟩)] w fun e w' => e = .returned (.tuple #[]) ∧ IsS88 w0 w' g r1 r2 r3 r4 ∧ Below w0.heap.size w0 w' ∧ KeepBut w w' g none := by
 have HI0 := Aside0.mk hI
 have HK := Aside0.mk (KeepBut.refl w g none)
 have HL := Aside0.mk hB.size
 clear hI
 have HW0 := Aside0.mk hB.size
 have HB := Aside0.mk hB
 clear hB
 have H : ((encode_Reader_head.f s0_0 s0_1 s0_2 s0_3 108 (decide (s0_2 < 32)) 1).bind fun bt332 => (some (bt332.1, bt332.2.1, bt332.2.2.1, bt332.2.2.2))) = some (r1, r2, r3, r4) := h
 clear h
 replace H := Option.bind_eq_some_iff.mp H
 obtain ⟨⟨t332, t333, t334, t335⟩, A20, H⟩ := H
 replace H : (some (t332, t333, t334, t335)) = some (r1, r2, r3, r4) := H
 have A2 := Aside0.mk A20
 clear A20
 simp only [Option.some.injEq, Prod.mk.injEq] at H
 obtain ⟨rfl, rfl, rfl, rfl⟩ := H
 obtain ⟨HGz3, hgz3⟩ := HI0.out
 have hcz3_0 := cellS88_0 HGz3
 have hcz3_1 := cellS88_1 HGz3
 have hcz3_2 := cellS88_2 HGz3
 have hcz3_3 := cellS88_3 HGz3
 have hfz3_0 := blk_frozen HGz3 0
 have hfz3_1 := blk_frozen HGz3 1
 have hfz3_2 := blk_frozen HGz3 2
 have hfz3_3 := blk_frozen HGz3 3
 clear HGz3 hgz3
 go_enter Tryd.func36, Tryd.ntmps36
 go_wp2_with (first | ((with_reducible refine gate_callee (f := 56) rfl ?_); refine goesL_ (some 8) rfl rfl Tryd.func56 (by kernel_rfl) rfl #[.pointer (some ⟨g, 0, none⟩), .int .u8 108, .bool (decide (s0_2 < 32)), .int .i64 1] rfl (by (try simp only [List.map_toArray, List.map_cons, List.map_nil]); first | done | rfl | (simp only [List.length_drop, List.length_take]; rfl)) ?_; (with_reducible refine (encode_Reader_head.calls g s0_0 s0_1 s0_2 s0_3 108 (decide (s0_2 < 32)) 1 t332 t333 t334 t335 w0 _ ?side1 ?side2 A2.out).mono ?_); (case side1 => repeat (first | (with_reducible first | exact HI0.out | apply IsS88.alloc | apply IsS88.drewN | apply IsS88.drew | apply IsS88.set_0 | apply IsS88.set_1 | apply IsS88.set_2 | apply IsS88.set_3) | exact HI0.out)); (case side2 => repeat (first | (with_reducible first | exact HB.out | apply below_alloc | apply pw_below_drewN | apply below_drew1 | refine below_set ?_ (IsS88.ge HI0.out)) | exact HB.out)); rintro e w4 ⟨rfl, hi, hb, hk⟩; refine ⟨_, rfl, ?_⟩; have n0_ := Aside0.mk (KeepBut.trans (by repeat (first | (with_reducible first | exact HK.out | apply KeepBut.set_ | apply keep_drewN | apply keep_drew | apply keep_alloc) | exact HK.out)) hk (.inl rfl)); have n1_ := Aside0.mk (hb); have n2_ := Aside0.mk (hi); clear HK; clear HB; clear HI0; have HK := n0_; have HB := n1_; have HI0 := n2_; clear n0_ n1_ n2_; (try clear hb); (try clear hb2); (try clear hk); (try clear hi)))
 first | go_end0 | ((try simp only [Exit.inBlock, Exit.then]); refine bodyPost_ret (results_none rfl _ _ _) rfl ?_)
 exact ⟨by first | rfl | (simp [errW_none, errW_some] <;> rfl) | (simp [*, errW_none, errW_some] <;> rfl), by repeat (first | (with_reducible first | exact HI0.out | apply IsS88.alloc | apply IsS88.drewN | apply IsS88.drew | apply IsS88.set_0 | apply IsS88.set_1 | apply IsS88.set_2 | apply IsS88.set_3) | exact HI0.out), by repeat (first | (with_reducible first | exact HB.out | apply below_alloc | apply pw_below_drewN | apply below_drew1 | refine below_set ?_ (IsS88.ge HI0.out)) | exact HB.out), by repeat (first | (with_reducible first | exact HK.out | apply KeepBut.set_ | apply keep_drewN | apply keep_drew | apply keep_alloc) | exact HK.out)⟩
end Go.Proofs.YtfpopmojlmpopaaDoor.G

end
section
namespace Go.Proofs.YtfpopmojlmpopaaDoor.G
open Go.RowKit Go.Proofs.YtfpopmojlmpopaaDoorW.PrintWords Go.Proofs.YtfpopmojlmpopaaDoorW.PrintLast Go.Proofs.YtfpopmojlmpopaaDoorW.PrintMore
attribute [local go_sem] max2_int min2_int max_two min_two max_three min_three max_four min_four
set_option linter.unusedVariables false
set_option linter.unusedSimpArgs false
def encode_Reader_More.f (s0_0 : ByteArray) (s0_1 : Int) (s0_2 : Int) (s0_3 : Int) : Option (Bool × ByteArray × Int × Int × Int) := if s0_3 = 0 then (if s0_1 < (s0_0.size : Int) then (if s0_2 = 0 then (some (true, s0_0, s0_1, s0_2, s0_3)) else (if 0 ≤ s0_1 then (some (((bt s0_0 s0_1) != 101), s0_0, s0_1, s0_2, s0_3)) else (none))) else (some (false, s0_0, s0_1, s0_2, s0_3))) else (some (false, s0_0, s0_1, s0_2, s0_3))
set_option maxHeartbeats 8000000 in
set_option maxRecDepth 100000 in
theorem encode_Reader_More.calls (g : Nat) (s0_0 : ByteArray) (s0_1 : Int) (s0_2 : Int) (s0_3 : Int) (r1 : Bool) (r2 : ByteArray) (r3 : Int) (r4 : Int) (r5 : Int) (w0 w : World) (hI : IsS88 w0 w g s0_0 s0_1 s0_2 s0_3) (hB : Below w0.heap.size w0 w) (h : encode_Reader_More.f s0_0 s0_1 s0_2 s0_3 = some (r1, r2, r3, r4, r5)) :
  Calls Tryd.prog 39 #[.pointer (some ⟨g, 0, none⟩)] w fun e w' => e = .returned (.bool r1) ∧ IsS88 w0 w' g r2 r3 r4 r5 ∧ Below w0.heap.size w0 w' ∧ KeepBut w w' g none := by
 have HI0 := Aside0.mk hI
 have HK := Aside0.mk (KeepBut.refl w g none)
 have HL := Aside0.mk hB.size
 clear hI
 have HW0 := Aside0.mk hB.size
 have HB := Aside0.mk hB
 clear hB
 have H : (if s0_3 = 0 then (if s0_1 < (s0_0.size : Int) then (if s0_2 = 0 then (some (true, s0_0, s0_1, s0_2, s0_3)) else (if 0 ≤ s0_1 then (some (((bt s0_0 s0_1) != 101), s0_0, s0_1, s0_2, s0_3)) else (none))) else (some (false, s0_0, s0_1, s0_2, s0_3))) else (some (false, s0_0, s0_1, s0_2, s0_3))) = some (r1, r2, r3, r4, r5) := h
 clear h
 by_cases c2 : s0_3 = 0
 ·rw [if_pos c2] at H
  have c2b0 : (s0_3 == 0) = true := beq_iff_eq.mpr c2
  have c2b1 : (s0_3 != 0) = false := bne_eq_false_iff_eq.mpr c2
  clear c2
  by_cases c3 : s0_1 < (s0_0.size : Int)
  ·rw [if_pos c3] at H
   have c3b0 : decide (s0_1 < (s0_0.size : Int)) = true := decide_eq_true c3
   clear c3
   by_cases c4 : s0_2 = 0
   ·rw [if_pos c4] at H
    have c4b0 : (s0_2 == 0) = true := beq_iff_eq.mpr c4
    have c4b1 : (s0_2 != 0) = false := bne_eq_false_iff_eq.mpr c4
    clear c4
    simp only [Option.some.injEq, Prod.mk.injEq] at H
    obtain ⟨rfl, rfl, rfl, rfl, rfl⟩ := H
    obtain ⟨HGz5, hgz5⟩ := HI0.out
    have hcz5_0 := cellS88_0 HGz5
    have hcz5_1 := cellS88_1 HGz5
    have hcz5_2 := cellS88_2 HGz5
    have hcz5_3 := cellS88_3 HGz5
    have hfz5_0 := blk_frozen HGz5 0
    have hfz5_1 := blk_frozen HGz5 1
    have hfz5_2 := blk_frozen HGz5 2
    have hfz5_3 := blk_frozen HGz5 3
    clear HGz5 hgz5
    go_enter Tryd.func39, Tryd.ntmps39
    go_wp2
    repeat (go_quiet (fail); try go_wp2)
    go_ret
    exact ⟨by first | rfl | (simp [errW_none, errW_some] <;> rfl) | (simp [*, errW_none, errW_some] <;> rfl), by repeat (first | (with_reducible first | exact HI0.out | apply IsS88.alloc | apply IsS88.drewN | apply IsS88.drew | apply IsS88.set_0 | apply IsS88.set_1 | apply IsS88.set_2 | apply IsS88.set_3) | exact HI0.out), by repeat (first | (with_reducible first | exact HB.out | apply below_alloc | apply pw_below_drewN | apply below_drew1 | refine below_set ?_ (IsS88.ge HI0.out)) | exact HB.out), by repeat (first | (with_reducible first | exact HK.out | apply KeepBut.set_ | apply keep_drewN | apply keep_drew | apply keep_alloc) | exact HK.out)⟩
   ·rw [if_neg c4] at H
    have c4b0 : (s0_2 == 0) = false := beq_eq_false_iff_ne.mpr c4
    have c4b1 : (s0_2 != 0) = true := bne_iff_ne.mpr c4
    by_cases c6 : 0 ≤ s0_1
    ·rw [if_pos c6] at H
     have c6b0 : decide (0 ≤ s0_1) = true := decide_eq_true c6
     clear c6
     simp only [Option.some.injEq, Prod.mk.injEq] at H
     obtain ⟨rfl, rfl, rfl, rfl, rfl⟩ := H
     obtain ⟨HGz8, hgz8⟩ := HI0.out
     have hcz8_0 := cellS88_0 HGz8
     have hcz8_1 := cellS88_1 HGz8
     have hcz8_2 := cellS88_2 HGz8
     have hcz8_3 := cellS88_3 HGz8
     have hfz8_0 := blk_frozen HGz8 0
     have hfz8_1 := blk_frozen HGz8 1
     have hfz8_2 := blk_frozen HGz8 2
     have hfz8_3 := blk_frozen HGz8 3
     clear HGz8 hgz8
     have p7 : 0 ≤ (s0_1 : Int) := of_decide_eq_true (by first | (with_reducible assumption) | assumption)
     have q7 : s0_1 < (s0_0.size : Int) := of_decide_eq_true (by first | (with_reducible assumption) | assumption)
     have hx7 := bt_at s0_0 s0_1
     replace p7 := eq_true p7
     replace q7 := eq_true q7
     go_enter Tryd.func39, Tryd.ntmps39
     go_wp2
     repeat (go_quiet (fail); try go_wp2)
     go_ret
     exact ⟨by first | rfl | (simp [errW_none, errW_some] <;> rfl) | (simp [*, errW_none, errW_some] <;> rfl), by repeat (first | (with_reducible first | exact HI0.out | apply IsS88.alloc | apply IsS88.drewN | apply IsS88.drew | apply IsS88.set_0 | apply IsS88.set_1 | apply IsS88.set_2 | apply IsS88.set_3) | exact HI0.out), by repeat (first | (with_reducible first | exact HB.out | apply below_alloc | apply pw_below_drewN | apply below_drew1 | refine below_set ?_ (IsS88.ge HI0.out)) | exact HB.out), by repeat (first | (with_reducible first | exact HK.out | apply KeepBut.set_ | apply keep_drewN | apply keep_drew | apply keep_alloc) | exact HK.out)⟩
    ·rw [if_neg c6] at H
     exact absurd H (by simp)
  ·rw [if_neg c3] at H
   have c3b0 : decide (s0_1 < (s0_0.size : Int)) = false := decide_eq_false c3
   clear c3
   simp only [Option.some.injEq, Prod.mk.injEq] at H
   obtain ⟨rfl, rfl, rfl, rfl, rfl⟩ := H
   obtain ⟨HGz9, hgz9⟩ := HI0.out
   have hcz9_0 := cellS88_0 HGz9
   have hcz9_1 := cellS88_1 HGz9
   have hcz9_2 := cellS88_2 HGz9
   have hcz9_3 := cellS88_3 HGz9
   have hfz9_0 := blk_frozen HGz9 0
   have hfz9_1 := blk_frozen HGz9 1
   have hfz9_2 := blk_frozen HGz9 2
   have hfz9_3 := blk_frozen HGz9 3
   clear HGz9 hgz9
   go_enter Tryd.func39, Tryd.ntmps39
   go_wp2
   repeat (go_quiet (fail); try go_wp2)
   go_ret
   exact ⟨by first | rfl | (simp [errW_none, errW_some] <;> rfl) | (simp [*, errW_none, errW_some] <;> rfl), by repeat (first | (with_reducible first | exact HI0.out | apply IsS88.alloc | apply IsS88.drewN | apply IsS88.drew | apply IsS88.set_0 | apply IsS88.set_1 | apply IsS88.set_2 | apply IsS88.set_3) | exact HI0.out), by repeat (first | (with_reducible first | exact HB.out | apply below_alloc | apply pw_below_drewN | apply below_drew1 | refine below_set ?_ (IsS88.ge HI0.out)) | exact HB.out), by repeat (first | (with_reducible first | exact HK.out | apply KeepBut.set_ | apply keep_drewN | apply keep_drew | apply keep_alloc) | exact HK.out)⟩
 ·rw [if_neg c2] at H
  have c2b0 : (s0_3 == 0) = false := beq_eq_false_iff_ne.mpr c2
  have c2b1 : (s0_3 != 0) = true := bne_iff_ne.mpr c2
  simp only [Option.some.injEq, Prod.mk.injEq] at H
  obtain ⟨rfl, rfl, rfl, rfl, rfl⟩ := H
  obtain ⟨HGz10, hgz10⟩ := HI0.out
  have hcz10_0 := cellS88_0 HGz10
  have hcz10_1 := cellS88_1 HGz10
  have hcz10_2 := cellS88_2 HGz10
  have hcz10_3 := cellS88_3 HGz10
  have hfz10_0 := blk_frozen HGz10 0
  have hfz10_1 := blk_frozen HGz10 1
  have hfz10_2 := blk_frozen HGz10 2
  have hfz10_3 := blk_frozen HGz10 3
  clear HGz10 hgz10
  go_enter Tryd.func39, Tryd.ntmps39
  go_wp2
  repeat (go_quiet (fail); try go_wp2)
  go_ret
  exact ⟨by first | rfl | (simp [errW_none, errW_some] <;> rfl) | (simp [*, errW_none, errW_some] <;> rfl), by repeat (first | (with_reducible first | exact HI0.out | apply IsS88.alloc | apply IsS88.drewN | apply IsS88.drew | apply IsS88.set_0 | apply IsS88.set_1 | apply IsS88.set_2 | apply IsS88.set_3) | exact HI0.out), by repeat (first | (with_reducible first | exact HB.out | apply below_alloc | apply pw_below_drewN | apply below_drew1 | refine below_set ?_ (IsS88.ge HI0.out)) | exact HB.out), by repeat (first | (with_reducible first | exact HK.out | apply KeepBut.set_ | apply keep_drewN | apply keep_drew | apply keep_alloc) | exact HK.out)⟩
def encode_Reader_Err.f (s0_0 : ByteArray) (s0_1 : Int) (s0_2 : Int) (s0_3 : Int) : Option (Int × ByteArray × Int × Int × Int) := some (s0_3, s0_0, s0_1, s0_2, s0_3)
set_option maxHeartbeats 8000000 in
set_option maxRecDepth 100000 in
theorem encode_Reader_Err.calls (g : Nat) (s0_0 : ByteArray) (s0_1 : Int) (s0_2 : Int) (s0_3 : Int) (r1 : Int) (r2 : ByteArray) (r3 : Int) (r4 : Int) (r5 : Int) (w0 w : World) (hI : IsS88 w0 w g s0_0 s0_1 s0_2 s0_3) (hB : Below w0.heap.size w0 w) (h : encode_Reader_Err.f s0_0 s0_1 s0_2 s0_3 = some (r1, r2, r3, r4, r5)) :
  Calls Tryd.prog 40 #[.pointer (some ⟨g, 0, none⟩)] w fun e w' => e = .returned (.int .i64 r1) ∧ IsS88 w0 w' g r2 r3 r4 r5 ∧ Below w0.heap.size w0 w' ∧ KeepBut w w' g none := by
 have HI0 := Aside0.mk hI
 have HK := Aside0.mk (KeepBut.refl w g none)
 have HL := Aside0.mk hB.size
 clear hI
 have HW0 := Aside0.mk hB.size
 have HB := Aside0.mk hB
 clear hB
 have H : (some (s0_3, s0_0, s0_1, s0_2, s0_3)) = some (r1, r2, r3, r4, r5) := h
 clear h
 simp only [Option.some.injEq, Prod.mk.injEq] at H
 obtain ⟨rfl, rfl, rfl, rfl, rfl⟩ := H
 obtain ⟨HGz2, hgz2⟩ := HI0.out
 have hcz2_0 := cellS88_0 HGz2
 have hcz2_1 := cellS88_1 HGz2
 have hcz2_2 := cellS88_2 HGz2
 have hcz2_3 := cellS88_3 HGz2
 have hfz2_0 := blk_frozen HGz2 0
 have hfz2_1 := blk_frozen HGz2 1
 have hfz2_2 := blk_frozen HGz2 2
 have hfz2_3 := blk_frozen HGz2 3
 clear HGz2 hgz2
 go_enter Tryd.func40, Tryd.ntmps40
 go_wp2
 go_ret
 exact ⟨by first | rfl | (simp [errW_none, errW_some] <;> rfl) | (simp [*, errW_none, errW_some] <;> rfl), by repeat (first | (with_reducible first | exact HI0.out | apply IsS88.alloc | apply IsS88.drewN | apply IsS88.drew | apply IsS88.set_0 | apply IsS88.set_1 | apply IsS88.set_2 | apply IsS88.set_3) | exact HI0.out), by repeat (first | (with_reducible first | exact HB.out | apply below_alloc | apply pw_below_drewN | apply below_drew1 | refine below_set ?_ (IsS88.ge HI0.out)) | exact HB.out), by repeat (first | (with_reducible first | exact HK.out | apply KeepBut.set_ | apply keep_drewN | apply keep_drew | apply keep_alloc) | exact HK.out)⟩
def encode_Reader_Close.f (s0_0 : ByteArray) (s0_1 : Int) (s0_2 : Int) (s0_3 : Int) : Option (ByteArray × Int × Int × Int) := (encode_Reader_head.f s0_0 s0_1 s0_2 s0_3 101 (decide (s0_2 > 0)) (-1)).bind fun bt336 => (some (bt336.1, bt336.2.1, bt336.2.2.1, bt336.2.2.2))
set_option maxHeartbeats 8000000 in
set_option maxRecDepth 100000 in
theorem encode_Reader_Close.calls (g : Nat) (s0_0 : ByteArray) (s0_1 : Int) (s0_2 : Int) (s0_3 : Int) (r1 : ByteArray) (r2 : Int) (r3 : Int) (r4 : Int) (w0 w : World) (hI : IsS88 w0 w g s0_0 s0_1 s0_2 s0_3) (hB : Below w0.heap.size w0 w) (h : encode_Reader_Close.f s0_0 s0_1 s0_2 s0_3 = some (r1, r2, r3, r4)) :
  Calls Tryd.prog 41 #[.pointer (some ⟨g, 0, none⟩)] w fun e w' => e = .returned (.tuple #[]) ∧ IsS88 w0 w' g r1 r2 r3 r4 ∧ Below w0.heap.size w0 w' ∧ KeepBut w w' g none := by
 have HI0 := Aside0.mk hI
 have HK := Aside0.mk (KeepBut.refl w g none)
 have HL := Aside0.mk hB.size
 clear hI
 have HW0 := Aside0.mk hB.size
 have HB := Aside0.mk hB
 clear hB
 have H : ((encode_Reader_head.f s0_0 s0_1 s0_2 s0_3 101 (decide (s0_2 > 0)) (-1)).bind fun bt336 => (some (bt336.1, bt336.2.1, bt336.2.2.1, bt336.2.2.2))) = some (r1, r2, r3, r4) := h
 clear h
 replace H := Option.bind_eq_some_iff.mp H
 obtain ⟨⟨t336, t337, t338, t339⟩, A20, H⟩ := H
 replace H : (some (t336, t337, t338, t339)) = some (r1, r2, r3, r4) := H
 have A2 := Aside0.mk A20
 clear A20
 simp only [Option.some.injEq, Prod.mk.injEq] at H
 obtain ⟨rfl, rfl, rfl, rfl⟩ := H
 obtain ⟨HGz3, hgz3⟩ := HI0.out
 have hcz3_0 := cellS88_0 HGz3
 have hcz3_1 := cellS88_1 HGz3
 have hcz3_2 := cellS88_2 HGz3
 have hcz3_3 := cellS88_3 HGz3
 have hfz3_0 := blk_frozen HGz3 0
 have hfz3_1 := blk_frozen HGz3 1
 have hfz3_2 := blk_frozen HGz3 2
 have hfz3_3 := blk_frozen HGz3 3
 clear HGz3 hgz3
 go_enter Tryd.func41, Tryd.ntmps41
 go_wp2_with (first | ((with_reducible refine gate_callee (f := 56) rfl ?_); refine goesL_ (some 8) rfl rfl Tryd.func56 (by kernel_rfl) rfl #[.pointer (some ⟨g, 0, none⟩), .int .u8 101, .bool (decide (s0_2 > 0)), .int .i64 (-1)] rfl (by (try simp only [List.map_toArray, List.map_cons, List.map_nil]); first | done | rfl | (simp only [List.length_drop, List.length_take]; rfl)) ?_; (with_reducible refine (encode_Reader_head.calls g s0_0 s0_1 s0_2 s0_3 101 (decide (s0_2 > 0)) (-1) t336 t337 t338 t339 w0 _ ?side1 ?side2 A2.out).mono ?_); (case side1 => repeat (first | (with_reducible first | exact HI0.out | apply IsS88.alloc | apply IsS88.drewN | apply IsS88.drew | apply IsS88.set_0 | apply IsS88.set_1 | apply IsS88.set_2 | apply IsS88.set_3) | exact HI0.out)); (case side2 => repeat (first | (with_reducible first | exact HB.out | apply below_alloc | apply pw_below_drewN | apply below_drew1 | refine below_set ?_ (IsS88.ge HI0.out)) | exact HB.out)); rintro e w4 ⟨rfl, hi, hb, hk⟩; refine ⟨_, rfl, ?_⟩; have n0_ := Aside0.mk (KeepBut.trans (by repeat (first | (with_reducible first | exact HK.out | apply KeepBut.set_ | apply keep_drewN | apply keep_drew | apply keep_alloc) | exact HK.out)) hk (.inl rfl)); have n1_ := Aside0.mk (hb); have n2_ := Aside0.mk (hi); clear HK; clear HB; clear HI0; have HK := n0_; have HB := n1_; have HI0 := n2_; clear n0_ n1_ n2_; (try clear hb); (try clear hb2); (try clear hk); (try clear hi)))
 first | go_end0 | ((try simp only [Exit.inBlock, Exit.then]); refine bodyPost_ret (results_none rfl _ _ _) rfl ?_)
 exact ⟨by first | rfl | (simp [errW_none, errW_some] <;> rfl) | (simp [*, errW_none, errW_some] <;> rfl), by repeat (first | (with_reducible first | exact HI0.out | apply IsS88.alloc | apply IsS88.drewN | apply IsS88.drew | apply IsS88.set_0 | apply IsS88.set_1 | apply IsS88.set_2 | apply IsS88.set_3) | exact HI0.out), by repeat (first | (with_reducible first | exact HB.out | apply below_alloc | apply pw_below_drewN | apply below_drew1 | refine below_set ?_ (IsS88.ge HI0.out)) | exact HB.out), by repeat (first | (with_reducible first | exact HK.out | apply KeepBut.set_ | apply keep_drewN | apply keep_drew | apply keep_alloc) | exact HK.out)⟩
def encode_Reader_End.f (s0_0 : ByteArray) (s0_1 : Int) (s0_2 : Int) (s0_3 : Int) : Option (Int × ByteArray × Int × Int × Int) := if s0_3 = 0 then (if s0_1 = (s0_0.size : Int) then (if s0_2 > 0 then (some (2, s0_0, s0_1, s0_2, s0_3)) else (some (s0_3, s0_0, s0_1, s0_2, s0_3))) else (some (2, s0_0, s0_1, s0_2, s0_3))) else (some (s0_3, s0_0, s0_1, s0_2, s0_3))
set_option maxHeartbeats 8000000 in
set_option maxRecDepth 100000 in
theorem encode_Reader_End.calls (g : Nat) (s0_0 : ByteArray) (s0_1 : Int) (s0_2 : Int) (s0_3 : Int) (r1 : Int) (r2 : ByteArray) (r3 : Int) (r4 : Int) (r5 : Int) (w0 w : World) (hI : IsS88 w0 w g s0_0 s0_1 s0_2 s0_3) (hB : Below w0.heap.size w0 w) (h : encode_Reader_End.f s0_0 s0_1 s0_2 s0_3 = some (r1, r2, r3, r4, r5)) :
  Calls Tryd.prog 42 #[.pointer (some ⟨g, 0, none⟩)] w fun e w' => e = .returned (.int .i64 r1) ∧ IsS88 w0 w' g r2 r3 r4 r5 ∧ Below w0.heap.size w0 w' ∧ KeepBut w w' g none := by
 have HI0 := Aside0.mk hI
 have HK := Aside0.mk (KeepBut.refl w g none)
 have HL := Aside0.mk hB.size
 clear hI
 have HW0 := Aside0.mk hB.size
 have HB := Aside0.mk hB
 clear hB
 have H : (if s0_3 = 0 then (if s0_1 = (s0_0.size : Int) then (if s0_2 > 0 then (some (2, s0_0, s0_1, s0_2, s0_3)) else (some (s0_3, s0_0, s0_1, s0_2, s0_3))) else (some (2, s0_0, s0_1, s0_2, s0_3))) else (some (s0_3, s0_0, s0_1, s0_2, s0_3))) = some (r1, r2, r3, r4, r5) := h
 clear h
 by_cases c2 : s0_3 = 0
 ·rw [if_pos c2] at H
  have c2b0 : (s0_3 == 0) = true := beq_iff_eq.mpr c2
  have c2b1 : (s0_3 != 0) = false := bne_eq_false_iff_eq.mpr c2
  clear c2
  by_cases c3 : s0_1 = (s0_0.size : Int)
  ·rw [if_pos c3] at H
   have c3b0 : (s0_1 == (s0_0.size : Int)) = true := beq_iff_eq.mpr c3
   have c3b1 : (s0_1 != (s0_0.size : Int)) = false := bne_eq_false_iff_eq.mpr c3
   clear c3
   by_cases c4 : s0_2 > 0
   ·rw [if_pos c4] at H
    have c4b0 : decide (0 < s0_2) = true := decide_eq_true c4
    clear c4
    simp only [Option.some.injEq, Prod.mk.injEq] at H
    obtain ⟨rfl, rfl, rfl, rfl, rfl⟩ := H
    obtain ⟨HGz5, hgz5⟩ := HI0.out
    have hcz5_0 := cellS88_0 HGz5
    have hcz5_1 := cellS88_1 HGz5
    have hcz5_2 := cellS88_2 HGz5
    have hcz5_3 := cellS88_3 HGz5
    have hfz5_0 := blk_frozen HGz5 0
    have hfz5_1 := blk_frozen HGz5 1
    have hfz5_2 := blk_frozen HGz5 2
    have hfz5_3 := blk_frozen HGz5 3
    clear HGz5 hgz5
    go_enter Tryd.func42, Tryd.ntmps42
    go_wp2
    repeat (go_quiet (fail); try go_wp2)
    go_ret
    exact ⟨by first | rfl | (simp [errW_none, errW_some] <;> rfl) | (simp [*, errW_none, errW_some] <;> rfl), by repeat (first | (with_reducible first | exact HI0.out | apply IsS88.alloc | apply IsS88.drewN | apply IsS88.drew | apply IsS88.set_0 | apply IsS88.set_1 | apply IsS88.set_2 | apply IsS88.set_3) | exact HI0.out), by repeat (first | (with_reducible first | exact HB.out | apply below_alloc | apply pw_below_drewN | apply below_drew1 | refine below_set ?_ (IsS88.ge HI0.out)) | exact HB.out), by repeat (first | (with_reducible first | exact HK.out | apply KeepBut.set_ | apply keep_drewN | apply keep_drew | apply keep_alloc) | exact HK.out)⟩
   ·rw [if_neg c4] at H
    have c4b0 : decide (0 < s0_2) = false := decide_eq_false c4
    clear c4
    simp only [Option.some.injEq, Prod.mk.injEq] at H
    obtain ⟨rfl, rfl, rfl, rfl, rfl⟩ := H
    obtain ⟨HGz6, hgz6⟩ := HI0.out
    have hcz6_0 := cellS88_0 HGz6
    have hcz6_1 := cellS88_1 HGz6
    have hcz6_2 := cellS88_2 HGz6
    have hcz6_3 := cellS88_3 HGz6
    have hfz6_0 := blk_frozen HGz6 0
    have hfz6_1 := blk_frozen HGz6 1
    have hfz6_2 := blk_frozen HGz6 2
    have hfz6_3 := blk_frozen HGz6 3
    clear HGz6 hgz6
    go_enter Tryd.func42, Tryd.ntmps42
    go_wp2
    repeat (go_quiet (fail); try go_wp2)
    go_ret
    exact ⟨by first | rfl | (simp [errW_none, errW_some] <;> rfl) | (simp [*, errW_none, errW_some] <;> rfl), by repeat (first | (with_reducible first | exact HI0.out | apply IsS88.alloc | apply IsS88.drewN | apply IsS88.drew | apply IsS88.set_0 | apply IsS88.set_1 | apply IsS88.set_2 | apply IsS88.set_3) | exact HI0.out), by repeat (first | (with_reducible first | exact HB.out | apply below_alloc | apply pw_below_drewN | apply below_drew1 | refine below_set ?_ (IsS88.ge HI0.out)) | exact HB.out), by repeat (first | (with_reducible first | exact HK.out | apply KeepBut.set_ | apply keep_drewN | apply keep_drew | apply keep_alloc) | exact HK.out)⟩
  ·rw [if_neg c3] at H
   have c3b0 : (s0_1 == (s0_0.size : Int)) = false := beq_eq_false_iff_ne.mpr c3
   have c3b1 : (s0_1 != (s0_0.size : Int)) = true := bne_iff_ne.mpr c3
   simp only [Option.some.injEq, Prod.mk.injEq] at H
   obtain ⟨rfl, rfl, rfl, rfl, rfl⟩ := H
   obtain ⟨HGz7, hgz7⟩ := HI0.out
   have hcz7_0 := cellS88_0 HGz7
   have hcz7_1 := cellS88_1 HGz7
   have hcz7_2 := cellS88_2 HGz7
   have hcz7_3 := cellS88_3 HGz7
   have hfz7_0 := blk_frozen HGz7 0
   have hfz7_1 := blk_frozen HGz7 1
   have hfz7_2 := blk_frozen HGz7 2
   have hfz7_3 := blk_frozen HGz7 3
   clear HGz7 hgz7
   go_enter Tryd.func42, Tryd.ntmps42
   go_wp2
   repeat (go_quiet (fail); try go_wp2)
   go_ret
   exact ⟨by first | rfl | (simp [errW_none, errW_some] <;> rfl) | (simp [*, errW_none, errW_some] <;> rfl), by repeat (first | (with_reducible first | exact HI0.out | apply IsS88.alloc | apply IsS88.drewN | apply IsS88.drew | apply IsS88.set_0 | apply IsS88.set_1 | apply IsS88.set_2 | apply IsS88.set_3) | exact HI0.out), by repeat (first | (with_reducible first | exact HB.out | apply below_alloc | apply pw_below_drewN | apply below_drew1 | refine below_set ?_ (IsS88.ge HI0.out)) | exact HB.out), by repeat (first | (with_reducible first | exact HK.out | apply KeepBut.set_ | apply keep_drewN | apply keep_drew | apply keep_alloc) | exact HK.out)⟩
 ·rw [if_neg c2] at H
  have c2b0 : (s0_3 == 0) = false := beq_eq_false_iff_ne.mpr c2
  have c2b1 : (s0_3 != 0) = true := bne_iff_ne.mpr c2
  simp only [Option.some.injEq, Prod.mk.injEq] at H
  obtain ⟨rfl, rfl, rfl, rfl, rfl⟩ := H
  obtain ⟨HGz8, hgz8⟩ := HI0.out
  have hcz8_0 := cellS88_0 HGz8
  have hcz8_1 := cellS88_1 HGz8
  have hcz8_2 := cellS88_2 HGz8
  have hcz8_3 := cellS88_3 HGz8
  have hfz8_0 := blk_frozen HGz8 0
  have hfz8_1 := blk_frozen HGz8 1
  have hfz8_2 := blk_frozen HGz8 2
  have hfz8_3 := blk_frozen HGz8 3
  clear HGz8 hgz8
  go_enter Tryd.func42, Tryd.ntmps42
  go_wp2
  repeat (go_quiet (fail); try go_wp2)
  go_ret
  exact ⟨by first | rfl | (simp [errW_none, errW_some] <;> rfl) | (simp [*, errW_none, errW_some] <;> rfl), by repeat (first | (with_reducible first | exact HI0.out | apply IsS88.alloc | apply IsS88.drewN | apply IsS88.drew | apply IsS88.set_0 | apply IsS88.set_1 | apply IsS88.set_2 | apply IsS88.set_3) | exact HI0.out), by repeat (first | (with_reducible first | exact HB.out | apply below_alloc | apply pw_below_drewN | apply below_drew1 | refine below_set ?_ (IsS88.ge HI0.out)) | exact HB.out), by repeat (first | (with_reducible first | exact HK.out | apply KeepBut.set_ | apply keep_drewN | apply keep_drew | apply keep_alloc) | exact HK.out)⟩
def encode_Reader_move.f (s0_0 : ByteArray) (s0_1 : Int) (s0_2 : Int) (s0_3 : Int) (a1 : Int) : Option (ByteArray × Int × Int × Int) := if a1 < 0 then ((encode_Reader_Fail.f s0_0 s0_1 s0_2 s0_3).bind fun bt340 => (some (bt340.1, bt340.2.1, bt340.2.2.1, bt340.2.2.2))) else (some (s0_0, a1, s0_2, s0_3))
set_option maxHeartbeats 8000000 in
set_option maxRecDepth 100000 in
theorem encode_Reader_move.calls (g : Nat) (s0_0 : ByteArray) (s0_1 : Int) (s0_2 : Int) (s0_3 : Int) (a1 : Int) (r1 : ByteArray) (r2 : Int) (r3 : Int) (r4 : Int) (w0 w : World) (hI : IsS88 w0 w g s0_0 s0_1 s0_2 s0_3) (hB : Below w0.heap.size w0 w) (h : encode_Reader_move.f s0_0 s0_1 s0_2 s0_3 a1 = some (r1, r2, r3, r4)) :
  Calls Tryd.prog 58 #[.pointer (some ⟨g, 0, none⟩), .int .i64 a1] w fun e w' => e = .returned (.tuple #[]) ∧ IsS88 w0 w' g r1 r2 r3 r4 ∧ Below w0.heap.size w0 w' ∧ KeepBut w w' g none := by
 have HI0 := Aside0.mk hI
 have HK := Aside0.mk (KeepBut.refl w g none)
 have HL := Aside0.mk hB.size
 clear hI
 have HW0 := Aside0.mk hB.size
 have HB := Aside0.mk hB
 clear hB
 have H : (if a1 < 0 then ((encode_Reader_Fail.f s0_0 s0_1 s0_2 s0_3).bind fun bt340 => (some (bt340.1, bt340.2.1, bt340.2.2.1, bt340.2.2.2))) else (some (s0_0, a1, s0_2, s0_3))) = some (r1, r2, r3, r4) := h
 clear h
 by_cases c3 : a1 < 0
 ·rw [if_pos c3] at H
  have c3b0 : decide (a1 < 0) = true := decide_eq_true c3
  clear c3
  replace H := Option.bind_eq_some_iff.mp H
  obtain ⟨⟨t340, t341, t342, t343⟩, A40, H⟩ := H
  replace H : (some (t340, t341, t342, t343)) = some (r1, r2, r3, r4) := H
  have A4 := Aside0.mk A40
  clear A40
  simp only [Option.some.injEq, Prod.mk.injEq] at H
  obtain ⟨rfl, rfl, rfl, rfl⟩ := H
  go_enter Tryd.func58, Tryd.ntmps58
  go_wp2_with (first | ((with_reducible refine gate_callee (f := 68) rfl ?_); refine goesL_ (some 7) rfl rfl Tryd.func68 (by kernel_rfl) rfl #[.pointer (some ⟨g, 0, none⟩)] rfl (by (try simp only [List.map_toArray, List.map_cons, List.map_nil]); first | done | rfl | (simp only [List.length_drop, List.length_take]; rfl)) ?_; (with_reducible refine (encode_Reader_Fail.calls g s0_0 s0_1 s0_2 s0_3 t340 t341 t342 t343 w0 _ ?side1 ?side2 A4.out).mono ?_); (case side1 => repeat (first | (with_reducible first | exact HI0.out | apply IsS88.alloc | apply IsS88.drewN | apply IsS88.drew | apply IsS88.set_0 | apply IsS88.set_1 | apply IsS88.set_2 | apply IsS88.set_3) | exact HI0.out)); (case side2 => repeat (first | (with_reducible first | exact HB.out | apply below_alloc | apply pw_below_drewN | apply below_drew1 | refine below_set ?_ (IsS88.ge HI0.out)) | exact HB.out)); rintro e w5 ⟨rfl, hi, hb, hk⟩; refine ⟨_, rfl, ?_⟩; have n0_ := Aside0.mk (KeepBut.trans (by repeat (first | (with_reducible first | exact HK.out | apply KeepBut.set_ | apply keep_drewN | apply keep_drew | apply keep_alloc) | exact HK.out)) hk (.inl rfl)); have n1_ := Aside0.mk (hb); have n2_ := Aside0.mk (hi); clear HK; clear HB; clear HI0; have HK := n0_; have HB := n1_; have HI0 := n2_; clear n0_ n1_ n2_; (try clear hb); (try clear hb2); (try clear hk); (try clear hi)))
  first | go_end0 | ((try simp only [Exit.inBlock, Exit.then]); refine bodyPost_ret (results_none rfl _ _ _) rfl ?_)
  exact ⟨by first | rfl | (simp [errW_none, errW_some] <;> rfl) | (simp [*, errW_none, errW_some] <;> rfl), by repeat (first | (with_reducible first | exact HI0.out | apply IsS88.alloc | apply IsS88.drewN | apply IsS88.drew | apply IsS88.set_0 | apply IsS88.set_1 | apply IsS88.set_2 | apply IsS88.set_3) | exact HI0.out), by repeat (first | (with_reducible first | exact HB.out | apply below_alloc | apply pw_below_drewN | apply below_drew1 | refine below_set ?_ (IsS88.ge HI0.out)) | exact HB.out), by repeat (first | (with_reducible first | exact HK.out | apply KeepBut.set_ | apply keep_drewN | apply keep_drew | apply keep_alloc) | exact HK.out)⟩
 ·rw [if_neg c3] at H
  have c3b0 : decide (a1 < 0) = false := decide_eq_false c3
  clear c3
  simp only [Option.some.injEq, Prod.mk.injEq] at H
  obtain ⟨rfl, rfl, rfl, rfl⟩ := H
  obtain ⟨HGz6, hgz6⟩ := HI0.out
  have hcz6_0 := cellS88_0 HGz6
  have hcz6_1 := cellS88_1 HGz6
  have hcz6_2 := cellS88_2 HGz6
  have hcz6_3 := cellS88_3 HGz6
  have hfz6_0 := blk_frozen HGz6 0
  have hfz6_1 := blk_frozen HGz6 1
  have hfz6_2 := blk_frozen HGz6 2
  have hfz6_3 := blk_frozen HGz6 3
  clear HGz6 hgz6
  go_enter Tryd.func58, Tryd.ntmps58
  go_wp2
  first | go_end0 | ((try simp only [Exit.inBlock, Exit.then]); refine bodyPost_ret (results_none rfl _ _ _) rfl ?_)
  exact ⟨by first | rfl | (simp [errW_none, errW_some] <;> rfl) | (simp [*, errW_none, errW_some] <;> rfl), by repeat (first | (with_reducible first | exact HI0.out | apply IsS88.alloc | apply IsS88.drewN | apply IsS88.drew | apply IsS88.set_0 | apply IsS88.set_1 | apply IsS88.set_2 | apply IsS88.set_3) | exact HI0.out), by repeat (first | (with_reducible first | exact HB.out | apply below_alloc | apply pw_below_drewN | apply below_drew1 | refine below_set ?_ (IsS88.ge HI0.out)) | exact HB.out), by repeat (first | (with_reducible first | exact HK.out | apply KeepBut.set_ | apply keep_drewN | apply keep_drew | apply keep_alloc) | exact HK.out)⟩
end Go.Proofs.YtfpopmojlmpopaaDoor.G

end
section
namespace Go.Proofs.YtfpopmojlmpopaaDoor.H
open Go.RowKit Go.Proofs.YtfpopmojlmpopaaDoorW.PrintWords Go.Proofs.YtfpopmojlmpopaaDoorW.PrintLast Go.Proofs.YtfpopmojlmpopaaDoorW.PrintMore Go.Proofs.YtfpopmojlmpopaaDoor.G
set_option linter.unusedVariables false
set_option linter.unusedSimpArgs false
def encode_Reader_Int.f (s0_0 : ByteArray) (s0_1 : Int) (s0_2 : Int) (s0_3 : Int) : Option (Int × ByteArray × Int × Int × Int) :=
 if s0_3 = 0 then
  if 0 ≤ s0_1 ∧ s0_1 ≤ (s0_0.size : Int) ∧ (s0_0.size : Int) ≤ 140737488355328 then
   (encode_Reader_move.f s0_0 s0_1 s0_2 s0_3 (outN (integerN s0_0 s0_1.toNat)).2).bind fun t => some ((outN (integerN s0_0 s0_1.toNat)).1, t.1, t.2.1, t.2.2.1, t.2.2.2)
  else none
 else some ((0 : Int), s0_0, s0_1, s0_2, s0_3)
set_option maxHeartbeats 8000000 in
set_option maxRecDepth 100000 in
theorem encode_Reader_Int.calls (g : Nat) (s0_0 : ByteArray) (s0_1 : Int) (s0_2 : Int) (s0_3 : Int) (r1 : Int) (r2 : ByteArray) (r3 : Int) (r4 : Int) (r5 : Int) (w0 w : World) (hLd : Laid w0) (hI : IsS88 w0 w g s0_0 s0_1 s0_2 s0_3) (hB : Below w0.heap.size w0 w) (h : encode_Reader_Int.f s0_0 s0_1 s0_2 s0_3 = some (r1, r2, r3, r4, r5)) :
  Calls Tryd.prog 37 #[.pointer (some ⟨g, 0, none⟩)] w fun e w' => e = .returned (.int .i64 r1) ∧ IsS88 w0 w' g r2 r3 r4 r5 ∧ Below w0.heap.size w0 w' ∧ KeepBut w w' g none := by
 unfold encode_Reader_Int.f at h
 obtain ⟨HGz, hgz⟩ := hI
 have hcz_0 := cellS88_0 HGz
 have hcz_1 := cellS88_1 HGz
 have hcz_2 := cellS88_2 HGz
 have hcz_3 := cellS88_3 HGz
 have hfz_0 := blk_frozen HGz 0
 have hfz_1 := blk_frozen HGz 1
 have hfz_2 := blk_frozen HGz 2
 have hfz_3 := blk_frozen HGz 3
 have HG := Lib.hid HGz
 have HB := Lib.hid hB
 have HL := Lib.hid hLd
 clear HGz hB hLd
 have GZ := Lib.hid hgz
 clear hgz
 go_enter Tryd.func37, Tryd.ntmps37
 by_cases h3 : s0_3 = 0
 ·rw [if_pos h3] at h
  have c0 : (s0_3 == 0) = true := beq_iff_eq.mpr h3
  have c1 : (s0_3 != 0) = false := bne_eq_false_iff_eq.mpr h3
  clear h3
  by_cases hr : 0 ≤ s0_1 ∧ s0_1 ≤ (s0_0.size : Int) ∧ (s0_0.size : Int) ≤ 140737488355328
  ·rw [if_pos hr] at h
   obtain ⟨hr0, hr1, hr2⟩ := hr
   obtain ⟨i, rfl⟩ := Int.eq_ofNat_of_zero_le hr0
   rw [Int.toNat_natCast] at h
   obtain ⟨o, ho⟩ : ∃ o, outN (integerN s0_0 i) = o := ⟨_, rfl⟩
   rw [ho] at h
   replace h := Option.bind_eq_some_iff.mp h
   obtain ⟨⟨t0, t1, t2, t3⟩, hm, h⟩ := h
   simp only [Option.some.injEq, Prod.mk.injEq] at h
   obtain ⟨rfl, rfl, rfl, rfl, rfl⟩ := h
   have HM := Lib.hid hm
   clear hm
   have HC := Lib.hid (encode_integer_calls s0_0 i (by omega) (by omega) w.drew (HL.out.below (below_drew1 HB.out)))
   clear hr0 hr1 hr2
   go_wp2_with fail
   refine start_ (n := 14) (S := fun w' => w'.cell? ⟨g, 0, none⟩ = some (.string s0_0) ∧ w'.cell? ⟨g, 1, none⟩ = some (.int .i64 (i : Int))) (ds := []) #[false, false, false, false, false, false, false, false, false, false, false, false, false, false] (by kernel_rfl) rfl rfl ⟨hcz_0, hcz_1⟩ (fun hHeld => ?_)
   refine pure_ (i := 0) (N := some 11) (v := ?_) (a' := ?_) #[true, false, false, false, false, false, false, false, false, false, false, false, false, false] rfl rfl (by kernel_rfl) (fun _ _ _ h => h) (Or.inl ⟨by rfl, ?_⟩) ?_ ?_
   rotate_left
   ·intro w'
    go_simp
    with_reducible rfl
   rotate_left
   ·simp only [Act.put, sA_, sB_, sC_, i64_w, i32_w]
    rfl
   refine pure_ (i := 1) (N := some 12) (v := ?_) (a' := ?_) #[true, true, false, false, false, false, false, false, false, false, false, false, false, false] rfl rfl (by kernel_rfl) (fun _ _ _ h => h) (Or.inl ⟨by rfl, ?_⟩) ?_ ?_
   rotate_left
   ·intro w'
    go_simp
    with_reducible rfl
   rotate_left
   ·simp only [Act.put, sA_, sB_, sC_, i64_w, i32_w]
    rfl
   refine pure_ (i := 2) (N := some 13) (v := ?_) (a' := ?_) #[true, true, true, false, false, false, false, false, false, false, false, false, false, false] rfl rfl (by kernel_rfl) (fun _ _ _ h => h) (Or.inl ⟨by rfl, ?_⟩) ?_ ?_
   rotate_left
   ·intro w'
    go_simp
    with_reducible rfl
   rotate_left
   ·simp only [Act.put, sA_, sB_, sC_, i64_w, i32_w]
    rfl
   refine pure_ (i := 4) (N := some 15) (v := ?_) (a' := ?_) #[true, true, true, false, true, false, false, false, false, false, false, false, false, false] rfl rfl (by kernel_rfl) (fun _ _ _ h => h) (Or.inl ⟨by rfl, ?_⟩) ?_ ?_
   rotate_left
   ·intro w'
    go_simp
    with_reducible rfl
   rotate_left
   ·simp only [Act.put, sA_, sB_, sC_, i64_w, i32_w]
    rfl
   refine pure_ (i := 5) (N := some 16) (v := ?_) (a' := ?_) #[true, true, true, false, true, true, false, false, false, false, false, false, false, false] rfl rfl (by kernel_rfl) (fun _ _ _ h => h) (Or.inl ⟨by rfl, ?_⟩) ?_ ?_
   rotate_left
   ·intro w'
    go_simp
    with_reducible rfl
   rotate_left
   ·simp only [Act.put, sA_, sB_, sC_, i64_w, i32_w]
    rfl
   refine pure_ (i := 6) (N := some 17) (v := ?_) (a' := ?_) #[true, true, true, false, true, true, true, false, false, false, false, false, false, false] rfl rfl (by kernel_rfl) (fun _ _ _ h => h) (Or.inl ⟨by rfl, ?_⟩) ?_ ?_
   rotate_left
   ·intro w'
    go_simp
    with_reducible rfl
   rotate_left
   ·simp only [Act.put, sA_, sB_, sC_, i64_w, i32_w]
    rfl
   refine take_ (i := 3) (N := some 14) (v := ?_) (a' := ?_) #[true, true, true, true, true, true, true, false, false, false, false, false, false, false] rfl rfl (by kernel_rfl) (fun _ _ _ h => h) (Or.inl ⟨by rfl, ?_⟩) hHeld ?_ ?_
   rotate_left
   ·rintro w' ⟨s0, s1⟩
    go_simp
    with_reducible rfl
   rotate_left
   ·simp only [Act.put, sA_, sB_, sC_, i64_w, i32_w]
    rfl
   refine take_ (i := 7) (N := some 18) (v := ?_) (a' := ?_) #[true, true, true, true, true, true, true, true, false, false, false, false, false, false] rfl rfl (by kernel_rfl) (fun _ _ _ h => h) (Or.inl ⟨by rfl, ?_⟩) hHeld ?_ ?_
   rotate_left
   ·rintro w' ⟨s0, s1⟩
    go_simp
    with_reducible rfl
   rotate_left
   ·simp only [Act.put, sA_, sB_, sC_, i64_w, i32_w]
    rfl
   refine one_ (i := 8) (N := some 19) #[true, true, true, true, true, true, true, true, true, false, false, false, false, false] rfl rfl (by kernel_rfl) (by decide) (fun K hK => ?_)
   refine goes_ Tryd.func57 (by kernel_rfl) rfl #[.string s0_0, .int .i64 (i : Int)] (by rfl) rfl rfl (by simp only [List.map_toArray, List.map_cons, List.map_nil]; rfl) ?_
   with_reducible refine (HC.out).mono ?_
   rintro e w3 ⟨rfl, hb⟩
   refine ⟨_, rfl, ?_⟩
   have HR3 := Lib.hid (show Below w.heap.size w w3 from ⟨hb.os, hb.tape, hb.output, hb.size, hb.block⟩)
   clear hb
   refine hK.out _ _ ⟨(HR3.out.cell (blk_lt HG.out)).trans hcz_0, (HR3.out.cell (blk_lt HG.out)).trans hcz_1⟩ (fun hHeld => ?_)
   clear hK K
   refine norm_ (a' := ?_) ?_ ?_
   rotate_left
   ·show Act.put _ (some 19) _ = _
    simp only [Act.put, sA_, sB_, sC_, i64_w, i32_w]
    rfl
   refine pure_ (i := 9) (N := some 10) (v := ?_) (a' := ?_) #[true, true, true, true, true, true, true, true, true, true, false, false, false, false] rfl rfl (by kernel_rfl) (fun _ _ _ h => h) (Or.inl ⟨by rfl, ?_⟩) ?_ ?_
   rotate_left
   ·intro w'
    go_simp
    with_reducible rfl
   rotate_left
   ·simp only [Act.put, sA_, sB_, sC_, i64_w, i32_w]
    rfl
   refine pure_ (i := 10) (N := some 20) (v := ?_) (a' := ?_) #[true, true, true, true, true, true, true, true, true, true, true, false, false, false] rfl rfl (by kernel_rfl) (fun _ _ _ h => h) (Or.inl ⟨by rfl, ?_⟩) ?_ ?_
   rotate_left
   ·intro w'
    go_simp
    with_reducible rfl
   rotate_left
   ·simp only [Act.put, sA_, sB_, sC_, i64_w, i32_w]
    rfl
   refine pure_ (i := 11) (N := some 21) (v := ?_) (a' := ?_) #[true, true, true, true, true, true, true, true, true, true, true, true, false, false] rfl rfl (by kernel_rfl) (fun _ _ _ h => h) (Or.inl ⟨by rfl, ?_⟩) ?_ ?_
   rotate_left
   ·intro w'
    go_simp
    with_reducible rfl
   rotate_left
   ·simp only [Act.put, sA_, sB_, sC_, i64_w, i32_w]
    rfl
   refine pure_ (i := 12) (N := some 3) (v := ?_) (a' := ?_) #[true, true, true, true, true, true, true, true, true, true, true, true, true, false] rfl rfl (by kernel_rfl) (fun _ _ _ h => h) (Or.inl ⟨by rfl, ?_⟩) ?_ ?_
   rotate_left
   ·intro w'
    go_simp
    with_reducible rfl
   rotate_left
   ·simp only [Act.put, sA_, sB_, sC_, i64_w, i32_w]
    rfl
   refine pure_ (i := 13) (N := some 4) (v := ?_) (a' := ?_) #[true, true, true, true, true, true, true, true, true, true, true, true, true, true] rfl rfl (by kernel_rfl) (fun _ _ _ h => h) (Or.inl ⟨by rfl, ?_⟩) ?_ ?_
   rotate_left
   ·intro w'
    go_simp
    with_reducible rfl
   rotate_left
   ·simp only [Act.put, sA_, sB_, sC_, i64_w, i32_w]
    rfl
   refine done_ (by kernel_rfl) ?_
   rw [ho]
   have HB3 : Hid (Below w0.heap.size w0 w3) := Lib.hid (HB.out.trans (HR3.out.mono HB.out.size))
   have HI3 : Hid (IsS88 w0 w3 g s0_0 (i : Int) s0_2 s0_3) := Lib.hid (IsS88.below (show IsS88 w0 w g s0_0 (i : Int) s0_2 s0_3 from ⟨HG.out, GZ.out⟩) HR3.out)
   clear hHeld
   go_wp2_with (first
    | ((with_reducible refine gate_callee (f := 58) rfl ?_); refine goesL_ (some 24) rfl rfl Tryd.func58 (by kernel_rfl) rfl #[.pointer (some ⟨g, 0, none⟩), .int .i64 o.2] rfl (by (try simp only [List.map_toArray, List.map_cons, List.map_nil]); first | done | rfl) ?_; (with_reducible refine (encode_Reader_move.calls g s0_0 i s0_2 s0_3 o.2 t0 t1 t2 t3 w0 _ HI3.out HB3.out HM.out).mono ?_); rintro e w5 ⟨rfl, hi, hb, hk⟩; refine ⟨_, rfl, ?_⟩; have HI5 := Lib.hid hi; have HB5 := Lib.hid hb; have HK5 := Lib.hid hk; clear hi hb hk))
   go_ret
   exact ⟨rfl, HI5.out, HB5.out, (KeepBut.of_below HR3.out g none).trans HK5.out (.inl rfl)⟩
  ·rw [if_neg hr] at h
   simp at h
 ·rw [if_neg h3] at h
  have c0 : (s0_3 == 0) = false := beq_eq_false_iff_ne.mpr h3
  have c1 : (s0_3 != 0) = true := bne_iff_ne.mpr h3
  clear h3
  simp only [Option.some.injEq, Prod.mk.injEq] at h
  obtain ⟨rfl, rfl, rfl, rfl, rfl⟩ := h
  go_wp2_with fail
  go_ret
  exact ⟨rfl, ⟨HG.out, GZ.out⟩, HB.out, KeepBut.refl _ _ _⟩
def encode_Reader_Text.f (s0_0 : ByteArray) (s0_1 : Int) (s0_2 : Int) (s0_3 : Int) : Option (ByteArray × ByteArray × Int × Int × Int) :=
 if s0_3 = 0 then
  if 0 ≤ s0_1 ∧ s0_1 ≤ (s0_0.size : Int) ∧ (s0_0.size : Int) ≤ 140737488355328 then
   (encode_Reader_move.f s0_0 s0_1 s0_2 s0_3 (outT s0_0 (textN s0_0 s0_1.toNat)).2).bind fun t => some ((outT s0_0 (textN s0_0 s0_1.toNat)).1, t.1, t.2.1, t.2.2.1, t.2.2.2)
  else none
 else some ((⟨#[]⟩ : ByteArray), s0_0, s0_1, s0_2, s0_3)
set_option maxHeartbeats 8000000 in
set_option maxRecDepth 100000 in
theorem encode_Reader_Text.calls (g : Nat) (s0_0 : ByteArray) (s0_1 : Int) (s0_2 : Int) (s0_3 : Int) (r1 : ByteArray) (r2 : ByteArray) (r3 : Int) (r4 : Int) (r5 : Int) (w0 w : World) (hLd : Laid w0) (hI : IsS88 w0 w g s0_0 s0_1 s0_2 s0_3) (hB : Below w0.heap.size w0 w) (h : encode_Reader_Text.f s0_0 s0_1 s0_2 s0_3 = some (r1, r2, r3, r4, r5)) :
  Calls Tryd.prog 59 #[.pointer (some ⟨g, 0, none⟩)] w fun e w' => e = .returned (.string r1) ∧ IsS88 w0 w' g r2 r3 r4 r5 ∧ Below w0.heap.size w0 w' ∧ KeepBut w w' g none := by
 unfold encode_Reader_Text.f at h
 obtain ⟨HGz, hgz⟩ := hI
 have hcz_0 := cellS88_0 HGz
 have hcz_1 := cellS88_1 HGz
 have hcz_2 := cellS88_2 HGz
 have hcz_3 := cellS88_3 HGz
 have hfz_0 := blk_frozen HGz 0
 have hfz_1 := blk_frozen HGz 1
 have hfz_2 := blk_frozen HGz 2
 have hfz_3 := blk_frozen HGz 3
 have HG := Lib.hid HGz
 have HB := Lib.hid hB
 have HL := Lib.hid hLd
 clear HGz hB hLd
 have GZ := Lib.hid hgz
 clear hgz
 go_enter Tryd.func59, Tryd.ntmps59
 by_cases h3 : s0_3 = 0
 ·rw [if_pos h3] at h
  have c0 : (s0_3 == 0) = true := beq_iff_eq.mpr h3
  have c1 : (s0_3 != 0) = false := bne_eq_false_iff_eq.mpr h3
  clear h3
  by_cases hr : 0 ≤ s0_1 ∧ s0_1 ≤ (s0_0.size : Int) ∧ (s0_0.size : Int) ≤ 140737488355328
  ·rw [if_pos hr] at h
   obtain ⟨hr0, hr1, hr2⟩ := hr
   obtain ⟨i, rfl⟩ := Int.eq_ofNat_of_zero_le hr0
   rw [Int.toNat_natCast] at h
   obtain ⟨o, ho⟩ : ∃ o, outT s0_0 (textN s0_0 i) = o := ⟨_, rfl⟩
   rw [ho] at h
   replace h := Option.bind_eq_some_iff.mp h
   obtain ⟨⟨t0, t1, t2, t3⟩, hm, h⟩ := h
   simp only [Option.some.injEq, Prod.mk.injEq] at h
   obtain ⟨rfl, rfl, rfl, rfl, rfl⟩ := h
   have HM := Lib.hid hm
   clear hm
   have HC := Lib.hid (encode_text_calls s0_0 i (by omega) (by omega) w.drew (HL.out.below (below_drew1 HB.out)))
   clear hr0 hr1 hr2
   go_wp2_with fail
   refine start_ (n := 14) (S := fun w' => w'.cell? ⟨g, 0, none⟩ = some (.string s0_0) ∧ w'.cell? ⟨g, 1, none⟩ = some (.int .i64 (i : Int))) (ds := []) #[false, false, false, false, false, false, false, false, false, false, false, false, false, false] (by kernel_rfl) rfl rfl ⟨hcz_0, hcz_1⟩ (fun hHeld => ?_)
   refine pure_ (i := 0) (N := some 11) (v := ?_) (a' := ?_) #[true, false, false, false, false, false, false, false, false, false, false, false, false, false] rfl rfl (by kernel_rfl) (fun _ _ _ h => h) (Or.inl ⟨by rfl, ?_⟩) ?_ ?_
   rotate_left
   ·intro w'
    go_simp
    with_reducible rfl
   rotate_left
   ·simp only [Act.put, sA_, sB_, sC_, i64_w, i32_w]
    rfl
   refine pure_ (i := 1) (N := some 12) (v := ?_) (a' := ?_) #[true, true, false, false, false, false, false, false, false, false, false, false, false, false] rfl rfl (by kernel_rfl) (fun _ _ _ h => h) (Or.inl ⟨by rfl, ?_⟩) ?_ ?_
   rotate_left
   ·intro w'
    go_simp
    with_reducible rfl
   rotate_left
   ·simp only [Act.put, sA_, sB_, sC_, i64_w, i32_w]
    rfl
   refine pure_ (i := 2) (N := some 13) (v := ?_) (a' := ?_) #[true, true, true, false, false, false, false, false, false, false, false, false, false, false] rfl rfl (by kernel_rfl) (fun _ _ _ h => h) (Or.inl ⟨by rfl, ?_⟩) ?_ ?_
   rotate_left
   ·intro w'
    go_simp
    with_reducible rfl
   rotate_left
   ·simp only [Act.put, sA_, sB_, sC_, i64_w, i32_w]
    rfl
   refine pure_ (i := 4) (N := some 15) (v := ?_) (a' := ?_) #[true, true, true, false, true, false, false, false, false, false, false, false, false, false] rfl rfl (by kernel_rfl) (fun _ _ _ h => h) (Or.inl ⟨by rfl, ?_⟩) ?_ ?_
   rotate_left
   ·intro w'
    go_simp
    with_reducible rfl
   rotate_left
   ·simp only [Act.put, sA_, sB_, sC_, i64_w, i32_w]
    rfl
   refine pure_ (i := 5) (N := some 16) (v := ?_) (a' := ?_) #[true, true, true, false, true, true, false, false, false, false, false, false, false, false] rfl rfl (by kernel_rfl) (fun _ _ _ h => h) (Or.inl ⟨by rfl, ?_⟩) ?_ ?_
   rotate_left
   ·intro w'
    go_simp
    with_reducible rfl
   rotate_left
   ·simp only [Act.put, sA_, sB_, sC_, i64_w, i32_w]
    rfl
   refine pure_ (i := 6) (N := some 17) (v := ?_) (a' := ?_) #[true, true, true, false, true, true, true, false, false, false, false, false, false, false] rfl rfl (by kernel_rfl) (fun _ _ _ h => h) (Or.inl ⟨by rfl, ?_⟩) ?_ ?_
   rotate_left
   ·intro w'
    go_simp
    with_reducible rfl
   rotate_left
   ·simp only [Act.put, sA_, sB_, sC_, i64_w, i32_w]
    rfl
   refine take_ (i := 3) (N := some 14) (v := ?_) (a' := ?_) #[true, true, true, true, true, true, true, false, false, false, false, false, false, false] rfl rfl (by kernel_rfl) (fun _ _ _ h => h) (Or.inl ⟨by rfl, ?_⟩) hHeld ?_ ?_
   rotate_left
   ·rintro w' ⟨s0, s1⟩
    go_simp
    with_reducible rfl
   rotate_left
   ·simp only [Act.put, sA_, sB_, sC_, i64_w, i32_w]
    rfl
   refine take_ (i := 7) (N := some 18) (v := ?_) (a' := ?_) #[true, true, true, true, true, true, true, true, false, false, false, false, false, false] rfl rfl (by kernel_rfl) (fun _ _ _ h => h) (Or.inl ⟨by rfl, ?_⟩) hHeld ?_ ?_
   rotate_left
   ·rintro w' ⟨s0, s1⟩
    go_simp
    with_reducible rfl
   rotate_left
   ·simp only [Act.put, sA_, sB_, sC_, i64_w, i32_w]
    rfl
   refine one_ (i := 8) (N := some 19) #[true, true, true, true, true, true, true, true, true, false, false, false, false, false] rfl rfl (by kernel_rfl) (by decide) (fun K hK => ?_)
   refine goes_ Tryd.func71 (by kernel_rfl) rfl #[.string s0_0, .int .i64 (i : Int)] (by rfl) rfl rfl (by simp only [List.map_toArray, List.map_cons, List.map_nil]; rfl) ?_
   with_reducible refine (HC.out).mono ?_
   rintro e w3 ⟨rfl, hb⟩
   refine ⟨_, rfl, ?_⟩
   have HR3 := Lib.hid (show Below w.heap.size w w3 from ⟨hb.os, hb.tape, hb.output, hb.size, hb.block⟩)
   clear hb
   refine hK.out _ _ ⟨(HR3.out.cell (blk_lt HG.out)).trans hcz_0, (HR3.out.cell (blk_lt HG.out)).trans hcz_1⟩ (fun hHeld => ?_)
   clear hK K
   refine norm_ (a' := ?_) ?_ ?_
   rotate_left
   ·show Act.put _ (some 19) _ = _
    simp only [Act.put, sA_, sB_, sC_, i64_w, i32_w]
    rfl
   refine pure_ (i := 9) (N := some 10) (v := ?_) (a' := ?_) #[true, true, true, true, true, true, true, true, true, true, false, false, false, false] rfl rfl (by kernel_rfl) (fun _ _ _ h => h) (Or.inl ⟨by rfl, ?_⟩) ?_ ?_
   rotate_left
   ·intro w'
    go_simp
    with_reducible rfl
   rotate_left
   ·simp only [Act.put, sA_, sB_, sC_, i64_w, i32_w]
    rfl
   refine pure_ (i := 10) (N := some 20) (v := ?_) (a' := ?_) #[true, true, true, true, true, true, true, true, true, true, true, false, false, false] rfl rfl (by kernel_rfl) (fun _ _ _ h => h) (Or.inl ⟨by rfl, ?_⟩) ?_ ?_
   rotate_left
   ·intro w'
    go_simp
    with_reducible rfl
   rotate_left
   ·simp only [Act.put, sA_, sB_, sC_, i64_w, i32_w]
    rfl
   refine pure_ (i := 11) (N := some 21) (v := ?_) (a' := ?_) #[true, true, true, true, true, true, true, true, true, true, true, true, false, false] rfl rfl (by kernel_rfl) (fun _ _ _ h => h) (Or.inl ⟨by rfl, ?_⟩) ?_ ?_
   rotate_left
   ·intro w'
    go_simp
    with_reducible rfl
   rotate_left
   ·simp only [Act.put, sA_, sB_, sC_, i64_w, i32_w]
    rfl
   refine pure_ (i := 12) (N := some 3) (v := ?_) (a' := ?_) #[true, true, true, true, true, true, true, true, true, true, true, true, true, false] rfl rfl (by kernel_rfl) (fun _ _ _ h => h) (Or.inl ⟨by rfl, ?_⟩) ?_ ?_
   rotate_left
   ·intro w'
    go_simp
    with_reducible rfl
   rotate_left
   ·simp only [Act.put, sA_, sB_, sC_, i64_w, i32_w]
    rfl
   refine pure_ (i := 13) (N := some 4) (v := ?_) (a' := ?_) #[true, true, true, true, true, true, true, true, true, true, true, true, true, true] rfl rfl (by kernel_rfl) (fun _ _ _ h => h) (Or.inl ⟨by rfl, ?_⟩) ?_ ?_
   rotate_left
   ·intro w'
    go_simp
    with_reducible rfl
   rotate_left
   ·simp only [Act.put, sA_, sB_, sC_, i64_w, i32_w]
    rfl
   refine done_ (by kernel_rfl) ?_
   rw [ho]
   have HB3 : Hid (Below w0.heap.size w0 w3) := Lib.hid (HB.out.trans (HR3.out.mono HB.out.size))
   have HI3 : Hid (IsS88 w0 w3 g s0_0 (i : Int) s0_2 s0_3) := Lib.hid (IsS88.below (show IsS88 w0 w g s0_0 (i : Int) s0_2 s0_3 from ⟨HG.out, GZ.out⟩) HR3.out)
   clear hHeld
   go_wp2_with (first
    | ((with_reducible refine gate_callee (f := 58) rfl ?_); refine goesL_ (some 24) rfl rfl Tryd.func58 (by kernel_rfl) rfl #[.pointer (some ⟨g, 0, none⟩), .int .i64 o.2] rfl (by (try simp only [List.map_toArray, List.map_cons, List.map_nil]); first | done | rfl) ?_; (with_reducible refine (encode_Reader_move.calls g s0_0 i s0_2 s0_3 o.2 t0 t1 t2 t3 w0 _ HI3.out HB3.out HM.out).mono ?_); rintro e w5 ⟨rfl, hi, hb, hk⟩; refine ⟨_, rfl, ?_⟩; have HI5 := Lib.hid hi; have HB5 := Lib.hid hb; have HK5 := Lib.hid hk; clear hi hb hk))
   go_ret
   exact ⟨rfl, HI5.out, HB5.out, (KeepBut.of_below HR3.out g none).trans HK5.out (.inl rfl)⟩
  ·rw [if_neg hr] at h
   simp at h
 ·rw [if_neg h3] at h
  have c0 : (s0_3 == 0) = false := beq_eq_false_iff_ne.mpr h3
  have c1 : (s0_3 != 0) = true := bne_iff_ne.mpr h3
  clear h3
  simp only [Option.some.injEq, Prod.mk.injEq] at h
  obtain ⟨rfl, rfl, rfl, rfl, rfl⟩ := h
  go_wp2_with fail
  go_ret
  exact ⟨rfl, ⟨HG.out, GZ.out⟩, HB.out, KeepBut.refl _ _ _⟩
end Go.Proofs.YtfpopmojlmpopaaDoor.H

end
section
namespace Go.Proofs.YtfpopmojlmpopaaDoor.G
open Go.RowKit Go.Proofs.YtfpopmojlmpopaaDoorW.PrintWords Go.Proofs.YtfpopmojlmpopaaDoorW.PrintLast Go.Proofs.YtfpopmojlmpopaaDoorW.PrintMore
attribute [local go_sem] max2_int min2_int max_two min_two max_three min_three max_four min_four
set_option linter.unusedVariables false
set_option linter.unusedSimpArgs false
def frame_getLines.l0 : Nat → List ByteArray → ByteArray → Int → Int → Int → Option (List ByteArray × ByteArray × Int × Int × Int)
 | 0, _, _, _, _, _ => none
 | k + 1, x3, x1000, x1001, x1002, x1003 => (encode_Reader_More.f x1000 x1001 x1002 x1003).bind fun bt348 => (if bt348.1 = true then ((encode_Reader_Err.f bt348.2.1 bt348.2.2.1 bt348.2.2.2.1 bt348.2.2.2.2).bind fun bt353 => (if bt353.1 = 0 then ((Go.Proofs.YtfpopmojlmpopaaDoor.H.encode_Reader_Text.f bt353.2.1 bt353.2.2.1 bt353.2.2.2.1 bt353.2.2.2.2).bind fun bt358 => (if x3.length < 8796093022208 then (frame_getLines.l0 k (x3 ++ [bt358.1]) bt358.2.1 bt358.2.2.1 bt358.2.2.2.1 bt358.2.2.2.2) else (none))) else ((encode_Reader_Close.f bt353.2.1 bt353.2.2.1 bt353.2.2.2.1 bt353.2.2.2.2).bind fun bt366 => (some (x3, bt366.1, bt366.2.1, bt366.2.2.1, bt366.2.2.2))))) else ((encode_Reader_Close.f bt348.2.1 bt348.2.2.1 bt348.2.2.2.1 bt348.2.2.2.2).bind fun bt370 => (some (x3, bt370.1, bt370.2.1, bt370.2.2.1, bt370.2.2.2))))
def frame_getLines.f (k : Nat) (s0_0 : ByteArray) (s0_1 : Int) (s0_2 : Int) (s0_3 : Int) : Option (List ByteArray × ByteArray × Int × Int × Int) := (encode_Reader_Open.f s0_0 s0_1 s0_2 s0_3).bind fun bt344 => (frame_getLines.l0 k ([] : List ByteArray) bt344.1 bt344.2.1 bt344.2.2.1 bt344.2.2.2)
set_option maxHeartbeats 8000000 in
set_option maxRecDepth 100000 in
theorem frame_getLines.calls (k : Nat) (g : Nat) (s0_0 : ByteArray) (s0_1 : Int) (s0_2 : Int) (s0_3 : Int) (r1 : List ByteArray) (r2 : ByteArray) (r3 : Int) (r4 : Int) (r5 : Int) (w0 w : World) (hLd : Go.Proofs.YtfpopmojlmpopaaDoor.H.Laid w0) (hI : IsS88 w0 w g s0_0 s0_1 s0_2 s0_3) (hB : Below w0.heap.size w0 w) (h : frame_getLines.f k s0_0 s0_1 s0_2 s0_3 = some (r1, r2, r3, r4, r5)) :
  Calls Tryd.prog 38 #[.pointer (some ⟨g, 0, none⟩)] w fun e w' => ∃ v0_ : Value, e = .returned (v0_) ∧ Kd.R Kd.string 9 w' w.heap.size (fun _ => True) v0_ r1 ∧ IsS88 w0 w' g r2 r3 r4 r5 ∧ Below w0.heap.size w0 w' ∧ KeepBut w w' g none := by
 have HLd := Aside0.mk hLd
 clear hLd
 have HI0 := Aside0.mk hI
 have HK := Aside0.mk (KeepBut.refl w g none)
 have HL := Aside0.mk hB.size
 clear hI
 have HW0 := Aside0.mk hB.size
 have HB := Aside0.mk hB
 clear hB
 have H : ((encode_Reader_Open.f s0_0 s0_1 s0_2 s0_3).bind fun bt344 => (frame_getLines.l0 k ([] : List ByteArray) bt344.1 bt344.2.1 bt344.2.2.1 bt344.2.2.2)) = some (r1, r2, r3, r4, r5) := h
 clear h
 replace H := Option.bind_eq_some_iff.mp H
 obtain ⟨⟨t344, t345, t346, t347⟩, A20, H⟩ := H
 replace H : (frame_getLines.l0 k ([] : List ByteArray) t344 t345 t346 t347) = some (r1, r2, r3, r4, r5) := H
 have A2 := Aside0.mk A20
 clear A20
 have H' := Aside0.mk H
 clear H
 go_enter Tryd.func38, Tryd.ntmps38
 go_wp2_with (first | ((with_reducible refine gate_callee (f := 36) rfl ?_); refine goesL_ (some 5) rfl rfl Tryd.func36 (by kernel_rfl) rfl #[.pointer (some ⟨g, 0, none⟩)] rfl (by (try simp only [List.map_toArray, List.map_cons, List.map_nil]); first | done | rfl | (simp only [List.length_drop, List.length_take]; rfl)) ?_; (with_reducible refine (encode_Reader_Open.calls g s0_0 s0_1 s0_2 s0_3 t344 t345 t346 t347 w0 _ ?side1 ?side2 A2.out).mono ?_); (case side1 => repeat (first | (with_reducible first | exact HI0.out | apply IsS88.alloc | apply IsS88.drewN | apply IsS88.drew | apply IsS88.set_0 | apply IsS88.set_1 | apply IsS88.set_2 | apply IsS88.set_3) | exact HI0.out)); (case side2 => repeat (first | (with_reducible first | exact HB.out | apply below_alloc | apply pw_below_drewN | apply below_drew1 | refine below_set ?_ (IsS88.ge HI0.out)) | exact HB.out)); rintro e w3 ⟨rfl, hi, hb, hk⟩; refine ⟨_, rfl, ?_⟩; have n0_ := Aside0.mk (KeepBut.trans (by repeat (first | (with_reducible first | exact HK.out | apply KeepBut.set_ | apply keep_drewN | apply keep_drew | apply keep_alloc) | exact HK.out)) hk (.inl rfl)); have n1_ := Aside0.mk (hb); have n2_ := Aside0.mk (hi); clear HK; clear HB; clear HI0; have HK := n0_; have HB := n1_; have HI0 := n2_; clear n0_ n1_ n2_; (try clear hb); (try clear hb2); (try clear hk); (try clear hi)))
 try simp only [Act.put, sA_, sB_, sC_, i64_w, i32_w]
 go_loopg [3] k (fun kq v3 w' => ∃ (x3_1 : List ByteArray) (x1000_1 : ByteArray) (x1001_1 : Int) (x1002_1 : Int) (x1003_1 : Int), Aside0 (frame_getLines.l0 kq x3_1 x1000_1 x1001_1 x1002_1 x1003_1 = some (r1, r2, r3, r4, r5)) ∧ Aside0 (kq ≤ k) ∧ Aside0 (Kd.R Kd.string 9 w' w.heap.size (fun _ => True) v3 x3_1) ∧ Aside0 (IsS88 w0 w' g x1000_1 x1001_1 x1002_1 x1003_1) ∧ Aside0 (KeepBut w w' g none) ∧ Aside0 (Below w0.heap.size w0 w'))
 case atStart => exact ⟨(([] : List ByteArray)), (t344), (t345), (t346), (t347), H', ⟨Nat.le_refl _⟩, ⟨by first | exact Kd.R_nil _ _ _ _ _ | exact Kd.N_nil _ _ _ _ _ | exact Kd.V_nil _ _ _ _ _ | exact Kd.Q_nil _ _ _ _ _ | exact Kd.S_nil _ _ _ _ _⟩, ⟨by repeat (first | (with_reducible first | exact HI0.out | apply IsS88.alloc | apply IsS88.drewN | apply IsS88.drew | apply IsS88.set_0 | apply IsS88.set_1 | apply IsS88.set_2 | apply IsS88.set_3) | exact HI0.out)⟩, ⟨by repeat (first | (with_reducible first | exact HK.out | apply KeepBut.set_ | apply keep_drewN | apply keep_drew | apply keep_alloc) | exact HK.out)⟩, ⟨by repeat (first | (with_reducible first | exact HB.out | apply below_alloc | apply pw_below_drewN | apply below_drew1 | refine below_set ?_ (IsS88.ge HI0.out)) | exact HB.out)⟩⟩
 case round =>
  clear H'
  try clear p2
  try clear c3
  obtain ⟨x3_1, x1000_1, x1001_1, x1002_1, x1003_1, HA, HK1, HO_3, HI0, HK, HB⟩ := hrel
  cases gk with
  | zero => exact absurd HA.out (by simp [frame_getLines.l0])
  | succ k1 =>
   have H := HA.out
   clear HA
   simp only [frame_getLines.l0] at H
   replace H := Option.bind_eq_some_iff.mp H
   obtain ⟨⟨t348, t349, t350, t351, t352⟩, A40, H⟩ := H
   replace H : (if t348 = true then ((encode_Reader_Err.f t349 t350 t351 t352).bind fun bt353 => (if bt353.1 = 0 then ((Go.Proofs.YtfpopmojlmpopaaDoor.H.encode_Reader_Text.f bt353.2.1 bt353.2.2.1 bt353.2.2.2.1 bt353.2.2.2.2).bind fun bt358 => (if x3_1.length < 8796093022208 then (frame_getLines.l0 k1 (x3_1 ++ [bt358.1]) bt358.2.1 bt358.2.2.1 bt358.2.2.2.1 bt358.2.2.2.2) else (none))) else ((encode_Reader_Close.f bt353.2.1 bt353.2.2.1 bt353.2.2.2.1 bt353.2.2.2.2).bind fun bt366 => (some (x3_1, bt366.1, bt366.2.1, bt366.2.2.1, bt366.2.2.2))))) else ((encode_Reader_Close.f t349 t350 t351 t352).bind fun bt370 => (some (x3_1, bt370.1, bt370.2.1, bt370.2.2.1, bt370.2.2.2)))) = some (r1, r2, r3, r4, r5) := H
   have A4 := Aside0.mk A40
   clear A40
   by_cases c5 : t348 = true
   ·subst c5
    have H1 : ((encode_Reader_Err.f t349 t350 t351 t352).bind fun bt353 => (if bt353.1 = 0 then ((Go.Proofs.YtfpopmojlmpopaaDoor.H.encode_Reader_Text.f bt353.2.1 bt353.2.2.1 bt353.2.2.2.1 bt353.2.2.2.2).bind fun bt358 => (if x3_1.length < 8796093022208 then (frame_getLines.l0 k1 (x3_1 ++ [bt358.1]) bt358.2.1 bt358.2.2.1 bt358.2.2.2.1 bt358.2.2.2.2) else (none))) else ((encode_Reader_Close.f bt353.2.1 bt353.2.2.1 bt353.2.2.2.1 bt353.2.2.2.2).bind fun bt366 => (some (x3_1, bt366.1, bt366.2.1, bt366.2.2.1, bt366.2.2.2))))) = some (r1, r2, r3, r4, r5) := by rw [if_pos rfl] at H; exact H
    clear H
    have H := H1
    clear H1
    replace H := Option.bind_eq_some_iff.mp H
    obtain ⟨⟨t353, t354, t355, t356, t357⟩, A60, H⟩ := H
    replace H : (if t353 = 0 then ((Go.Proofs.YtfpopmojlmpopaaDoor.H.encode_Reader_Text.f t354 t355 t356 t357).bind fun bt358 => (if x3_1.length < 8796093022208 then (frame_getLines.l0 k1 (x3_1 ++ [bt358.1]) bt358.2.1 bt358.2.2.1 bt358.2.2.2.1 bt358.2.2.2.2) else (none))) else ((encode_Reader_Close.f t354 t355 t356 t357).bind fun bt366 => (some (x3_1, bt366.1, bt366.2.1, bt366.2.2.1, bt366.2.2.2)))) = some (r1, r2, r3, r4, r5) := H
    have A6 := Aside0.mk A60
    clear A60
    by_cases c7 : t353 = 0
    ·rw [if_pos c7] at H
     have c7b0 : (t353 == 0) = true := beq_iff_eq.mpr c7
     have c7b1 : (t353 != 0) = false := bne_eq_false_iff_eq.mpr c7
     clear c7
     replace H := Option.bind_eq_some_iff.mp H
     obtain ⟨⟨t358, t359, t360, t361, t362⟩, A80, H⟩ := H
     replace H : (if x3_1.length < 8796093022208 then (frame_getLines.l0 k1 (x3_1 ++ [t358]) t359 t360 t361 t362) else (none)) = some (r1, r2, r3, r4, r5) := H
     have A8 := Aside0.mk A80
     clear A80
     by_cases c9 : x3_1.length < 8796093022208
     ·rw [if_pos c9] at H
      have LMc9 := Aside0.mk c9
      clear c9
      obtain ⟨y363, hy363⟩ : ∃ y_ : List ByteArray, y_ = (x3_1 ++ [t358]) := ⟨_, rfl⟩
      replace H : (frame_getLines.l0 k1 y363 t359 t360 t361 t362) = some (r1, r2, r3, r4, r5) := by first | (rw [hy363]; with_reducible exact H) | (have H2_ := (Option.bind_some _ _).symm.trans H; rw [hy363]; with_reducible exact H2_) | (have H2_ := (Option.bind_some _ _).symm.trans H; with_reducible exact H2_) | with_reducible exact H | (rw [hy363]; exact H) | exact H
      have Ny363 := Aside0.mk hy363
      clear hy363
      have H' := Aside0.mk H
      clear H
      go_wp2_with (first | ((with_reducible refine gate_callee (f := 39) rfl ?_); refine goesL_ (some 7) rfl rfl Tryd.func39 (by kernel_rfl) rfl #[.pointer (some ⟨g, 0, none⟩)] rfl (by (try simp only [List.map_toArray, List.map_cons, List.map_nil]); first | done | rfl | (simp only [List.length_drop, List.length_take]; rfl)) ?_; (with_reducible refine (encode_Reader_More.calls g x1000_1 x1001_1 x1002_1 x1003_1 true t349 t350 t351 t352 w0 _ ?side1 ?side2 A4.out).mono ?_); (case side1 => repeat (first | (with_reducible first | exact HI0.out | apply IsS88.alloc | apply IsS88.drewN | apply IsS88.drew | apply IsS88.set_0 | apply IsS88.set_1 | apply IsS88.set_2 | apply IsS88.set_3) | exact HI0.out)); (case side2 => repeat (first | (with_reducible first | exact HB.out | apply below_alloc | apply pw_below_drewN | apply below_drew1 | refine below_set ?_ (IsS88.ge HI0.out)) | exact HB.out)); rintro e w10 ⟨rfl, hi, hb, hk⟩; refine ⟨_, rfl, ?_⟩; have n0_ := Aside0.mk (Kd.R_mono (Kd.R_keep (IsS88.apart (show IsS88 w0 _ g x1000_1 x1001_1 x1002_1 x1003_1 from by repeat (first | (with_reducible first | exact HI0.out | apply IsS88.alloc | apply IsS88.drewN | apply IsS88.drew | apply IsS88.set_0 | apply IsS88.set_1 | apply IsS88.set_2 | apply IsS88.set_3) | exact HI0.out)) (by (with_reducible repeat (first | apply Kd.R_alloc | apply Kd.R_drewN | apply Kd.R_drew)); exact HO_3.out) (by decide)) hk (fun _ h => h.2)) (fun _ h => h.1)); have n1_ := Aside0.mk (KeepBut.trans (by repeat (first | (with_reducible first | exact HK.out | apply KeepBut.set_ | apply keep_drewN | apply keep_drew | apply keep_alloc) | exact HK.out)) hk (.inl rfl)); have n2_ := Aside0.mk (hb); have n3_ := Aside0.mk (hi); clear HO_3; clear HK; clear HB; clear HI0; have HO_3 := n0_; have HK := n1_; have HB := n2_; have HI0 := n3_; clear n0_ n1_ n2_ n3_; (try clear hb); (try clear hb2); (try clear hk); (try clear hi)) | (go_at_call 40; (with_reducible refine (encode_Reader_Err.calls g t349 t350 t351 t352 t353 t354 t355 t356 t357 w0 _ ?side1 ?side2 A6.out).mono ?_); (case side1 => repeat (first | (with_reducible first | exact HI0.out | apply IsS88.alloc | apply IsS88.drewN | apply IsS88.drew | apply IsS88.set_0 | apply IsS88.set_1 | apply IsS88.set_2 | apply IsS88.set_3) | exact HI0.out)); (case side2 => repeat (first | (with_reducible first | exact HB.out | apply below_alloc | apply pw_below_drewN | apply below_drew1 | refine below_set ?_ (IsS88.ge HI0.out)) | exact HB.out)); rintro e w11 ⟨rfl, hi, hb, hk⟩; have n0_ := Aside0.mk (Kd.R_mono (Kd.R_keep (IsS88.apart (show IsS88 w0 _ g t349 t350 t351 t352 from by repeat (first | (with_reducible first | exact HI0.out | apply IsS88.alloc | apply IsS88.drewN | apply IsS88.drew | apply IsS88.set_0 | apply IsS88.set_1 | apply IsS88.set_2 | apply IsS88.set_3) | exact HI0.out)) (by (with_reducible repeat (first | apply Kd.R_alloc | apply Kd.R_drewN | apply Kd.R_drew)); exact HO_3.out) (by decide)) hk (fun _ h => h.2)) (fun _ h => h.1)); have n1_ := Aside0.mk (KeepBut.trans (by repeat (first | (with_reducible first | exact HK.out | apply KeepBut.set_ | apply keep_drewN | apply keep_drew | apply keep_alloc) | exact HK.out)) hk (.inl rfl)); have n2_ := Aside0.mk (hb); have n3_ := Aside0.mk (hi); clear HO_3; clear HK; clear HB; clear HI0; have HO_3 := n0_; have HK := n1_; have HB := n2_; have HI0 := n3_; clear n0_ n1_ n2_ n3_; (try clear hb); (try clear hb2); (try clear hk); (try clear hi)) | ((with_reducible refine gate_callee (f := 59) rfl ?_); refine goesL_ (some 15) rfl rfl Tryd.func59 (by kernel_rfl) rfl #[.pointer (some ⟨g, 0, none⟩)] rfl (by (try simp only [List.map_toArray, List.map_cons, List.map_nil]); first | done | rfl | (simp only [List.length_drop, List.length_take]; rfl)) ?_; (with_reducible refine (Go.Proofs.YtfpopmojlmpopaaDoor.H.encode_Reader_Text.calls g t354 t355 t356 t357 t358 t359 t360 t361 t362 w0 _ ?side1 ?side2 ?side3 A8.out).mono ?_); (case side1 => exact HLd.out); (case side2 => repeat (first | (with_reducible first | exact HI0.out | apply IsS88.alloc | apply IsS88.drewN | apply IsS88.drew | apply IsS88.set_0 | apply IsS88.set_1 | apply IsS88.set_2 | apply IsS88.set_3) | exact HI0.out)); (case side3 => repeat (first | (with_reducible first | exact HB.out | apply below_alloc | apply pw_below_drewN | apply below_drew1 | refine below_set ?_ (IsS88.ge HI0.out)) | exact HB.out)); rintro e w12 ⟨rfl, hi, hb, hk⟩; refine ⟨_, rfl, ?_⟩; have n0_ := Aside0.mk (Kd.R_mono (Kd.R_keep (IsS88.apart (show IsS88 w0 _ g t354 t355 t356 t357 from by repeat (first | (with_reducible first | exact HI0.out | apply IsS88.alloc | apply IsS88.drewN | apply IsS88.drew | apply IsS88.set_0 | apply IsS88.set_1 | apply IsS88.set_2 | apply IsS88.set_3) | exact HI0.out)) (by (with_reducible repeat (first | apply Kd.R_alloc | apply Kd.R_drewN | apply Kd.R_drew)); exact HO_3.out) (by decide)) hk (fun _ h => h.2)) (fun _ h => h.1)); have n1_ := Aside0.mk (KeepBut.trans (by repeat (first | (with_reducible first | exact HK.out | apply KeepBut.set_ | apply keep_drewN | apply keep_drew | apply keep_alloc) | exact HK.out)) hk (.inl rfl)); have n2_ := Aside0.mk (hb); have n3_ := Aside0.mk (hi); clear HO_3; clear HK; clear HB; clear HI0; have HO_3 := n0_; have HK := n1_; have HB := n2_; have HI0 := n3_; clear n0_ n1_ n2_ n3_; (try clear hb); (try clear hb2); (try clear hk); (try clear hi)) | ((with_reducible refine gate_builtin (b := .append) (xs := #[.tmp 13, .tmp 16]) rfl ?_); at_builtin; refine Kd.R_append Kd.string w.heap.size rfl (.tmp 13) (.tmp 16) 28 9 (.string ⟨#[]⟩) 16 rfl Tryd.underlying28 info9 rfl (by decide) (by omega) u3 x3_1 t358 [.string t358] (fun _ => True) (fun _ => False) rfl rfl ?aP (fun _ hk => hk.elim) ?aF ?aO (Below.refl _ _) ?aS ?aL ?_; (case aP => exact rfl); (case aF => exact (fun _ _ => trivial)); (case aO => exact (by (with_reducible repeat (first | apply Kd.R_alloc | apply Kd.R_drewN | apply Kd.R_drew)); exact HO_3.out)); (case aS => exact (keep_size (w := w) (g := g) (row := none) (by repeat (first | (with_reducible first | exact HK.out | apply KeepBut.set_ | apply keep_drewN | apply keep_drew | apply keep_alloc) | exact HK.out)))); (case aL => have := LMc9.out; omega); intro v364 w13 ho hb hg hat; rw [← Ny363.out] at ho; have n0_ := Aside0.mk (IsS88.grown (by repeat (first | (with_reducible first | exact HI0.out | apply IsS88.alloc | apply IsS88.drewN | apply IsS88.drew | apply IsS88.set_0 | apply IsS88.set_1 | apply IsS88.set_2 | apply IsS88.set_3) | exact HI0.out)) hg (IsS88.own_ne HI0.out HO_3.out (by decide))); have n1_ := Aside0.mk (below_weaken (by repeat (first | (with_reducible first | exact HB.out | apply below_alloc | apply pw_below_drewN | apply below_drew1 | refine below_set ?_ (IsS88.ge HI0.out)) | exact HB.out)) HL.out hb); have n2_ := Aside0.mk (KeepBut.trans (by repeat (first | (with_reducible first | exact HK.out | apply KeepBut.set_ | apply keep_drewN | apply keep_drew | apply keep_alloc) | exact HK.out)) (KeepBut.of_grown hg g) (Kd.R_base2 HO_3.out)); have n3_ := Aside0.mk (ho); clear HI0; clear HB; clear HK; clear HO_3; have HI0 := n0_; have HB := n1_; have HK := n2_; have HO365 := n3_; clear n0_ n1_ n2_ n3_; clear ho hb hg hat))
      go_roundg k1
      case measure => have := HK1.out; omega
      case rel => exact ⟨(y363), (t359), (t360), (t361), (t362), H', ⟨by have := HK1.out; omega⟩, ⟨by (with_reducible repeat (first | apply Kd.R_alloc | apply Kd.R_drewN | apply Kd.R_drew)); exact HO365.out⟩, ⟨by repeat (first | (with_reducible first | exact HI0.out | apply IsS88.alloc | apply IsS88.drewN | apply IsS88.drew | apply IsS88.set_0 | apply IsS88.set_1 | apply IsS88.set_2 | apply IsS88.set_3) | exact HI0.out)⟩, ⟨by repeat (first | (with_reducible first | exact HK.out | apply KeepBut.set_ | apply keep_drewN | apply keep_drew | apply keep_alloc) | exact HK.out)⟩, ⟨by repeat (first | (with_reducible first | exact HB.out | apply below_alloc | apply pw_below_drewN | apply below_drew1 | refine below_set ?_ (IsS88.ge HI0.out)) | exact HB.out)⟩⟩
     ·rw [if_neg c9] at H
      exact absurd H (by simp)
    ·rw [if_neg c7] at H
     have c7b0 : (t353 == 0) = false := beq_eq_false_iff_ne.mpr c7
     have c7b1 : (t353 != 0) = true := bne_iff_ne.mpr c7
     replace H := Option.bind_eq_some_iff.mp H
     obtain ⟨⟨t366, t367, t368, t369⟩, A140, H⟩ := H
     replace H : (some (x3_1, t366, t367, t368, t369)) = some (r1, r2, r3, r4, r5) := H
     have A14 := Aside0.mk A140
     clear A140
     simp only [Option.some.injEq, Prod.mk.injEq] at H
     obtain ⟨rfl, rfl, rfl, rfl, rfl⟩ := H
     go_wp2_with (first | ((with_reducible refine gate_callee (f := 39) rfl ?_); refine goesL_ (some 7) rfl rfl Tryd.func39 (by kernel_rfl) rfl #[.pointer (some ⟨g, 0, none⟩)] rfl (by (try simp only [List.map_toArray, List.map_cons, List.map_nil]); first | done | rfl | (simp only [List.length_drop, List.length_take]; rfl)) ?_; (with_reducible refine (encode_Reader_More.calls g x1000_1 x1001_1 x1002_1 x1003_1 true t349 t350 t351 t352 w0 _ ?side1 ?side2 A4.out).mono ?_); (case side1 => repeat (first | (with_reducible first | exact HI0.out | apply IsS88.alloc | apply IsS88.drewN | apply IsS88.drew | apply IsS88.set_0 | apply IsS88.set_1 | apply IsS88.set_2 | apply IsS88.set_3) | exact HI0.out)); (case side2 => repeat (first | (with_reducible first | exact HB.out | apply below_alloc | apply pw_below_drewN | apply below_drew1 | refine below_set ?_ (IsS88.ge HI0.out)) | exact HB.out)); rintro e w15 ⟨rfl, hi, hb, hk⟩; refine ⟨_, rfl, ?_⟩; have n0_ := Aside0.mk (Kd.R_mono (Kd.R_keep (IsS88.apart (show IsS88 w0 _ g x1000_1 x1001_1 x1002_1 x1003_1 from by repeat (first | (with_reducible first | exact HI0.out | apply IsS88.alloc | apply IsS88.drewN | apply IsS88.drew | apply IsS88.set_0 | apply IsS88.set_1 | apply IsS88.set_2 | apply IsS88.set_3) | exact HI0.out)) (by (with_reducible repeat (first | apply Kd.R_alloc | apply Kd.R_drewN | apply Kd.R_drew)); exact HO_3.out) (by decide)) hk (fun _ h => h.2)) (fun _ h => h.1)); have n1_ := Aside0.mk (KeepBut.trans (by repeat (first | (with_reducible first | exact HK.out | apply KeepBut.set_ | apply keep_drewN | apply keep_drew | apply keep_alloc) | exact HK.out)) hk (.inl rfl)); have n2_ := Aside0.mk (hb); have n3_ := Aside0.mk (hi); clear HO_3; clear HK; clear HB; clear HI0; have HO_3 := n0_; have HK := n1_; have HB := n2_; have HI0 := n3_; clear n0_ n1_ n2_ n3_; (try clear hb); (try clear hb2); (try clear hk); (try clear hi)) | (go_at_call 40; (with_reducible refine (encode_Reader_Err.calls g t349 t350 t351 t352 t353 t354 t355 t356 t357 w0 _ ?side1 ?side2 A6.out).mono ?_); (case side1 => repeat (first | (with_reducible first | exact HI0.out | apply IsS88.alloc | apply IsS88.drewN | apply IsS88.drew | apply IsS88.set_0 | apply IsS88.set_1 | apply IsS88.set_2 | apply IsS88.set_3) | exact HI0.out)); (case side2 => repeat (first | (with_reducible first | exact HB.out | apply below_alloc | apply pw_below_drewN | apply below_drew1 | refine below_set ?_ (IsS88.ge HI0.out)) | exact HB.out)); rintro e w16 ⟨rfl, hi, hb, hk⟩; have n0_ := Aside0.mk (Kd.R_mono (Kd.R_keep (IsS88.apart (show IsS88 w0 _ g t349 t350 t351 t352 from by repeat (first | (with_reducible first | exact HI0.out | apply IsS88.alloc | apply IsS88.drewN | apply IsS88.drew | apply IsS88.set_0 | apply IsS88.set_1 | apply IsS88.set_2 | apply IsS88.set_3) | exact HI0.out)) (by (with_reducible repeat (first | apply Kd.R_alloc | apply Kd.R_drewN | apply Kd.R_drew)); exact HO_3.out) (by decide)) hk (fun _ h => h.2)) (fun _ h => h.1)); have n1_ := Aside0.mk (KeepBut.trans (by repeat (first | (with_reducible first | exact HK.out | apply KeepBut.set_ | apply keep_drewN | apply keep_drew | apply keep_alloc) | exact HK.out)) hk (.inl rfl)); have n2_ := Aside0.mk (hb); have n3_ := Aside0.mk (hi); clear HO_3; clear HK; clear HB; clear HI0; have HO_3 := n0_; have HK := n1_; have HB := n2_; have HI0 := n3_; clear n0_ n1_ n2_ n3_; (try clear hb); (try clear hb2); (try clear hk); (try clear hi)) | ((with_reducible refine gate_callee (f := 41) rfl ?_); refine goesL_ (some 19) rfl rfl Tryd.func41 (by kernel_rfl) rfl #[.pointer (some ⟨g, 0, none⟩)] rfl (by (try simp only [List.map_toArray, List.map_cons, List.map_nil]); first | done | rfl | (simp only [List.length_drop, List.length_take]; rfl)) ?_; (with_reducible refine (encode_Reader_Close.calls g t354 t355 t356 t357 t366 t367 t368 t369 w0 _ ?side1 ?side2 A14.out).mono ?_); (case side1 => repeat (first | (with_reducible first | exact HI0.out | apply IsS88.alloc | apply IsS88.drewN | apply IsS88.drew | apply IsS88.set_0 | apply IsS88.set_1 | apply IsS88.set_2 | apply IsS88.set_3) | exact HI0.out)); (case side2 => repeat (first | (with_reducible first | exact HB.out | apply below_alloc | apply pw_below_drewN | apply below_drew1 | refine below_set ?_ (IsS88.ge HI0.out)) | exact HB.out)); rintro e w17 ⟨rfl, hi, hb, hk⟩; refine ⟨_, rfl, ?_⟩; have n0_ := Aside0.mk (Kd.R_mono (Kd.R_keep (IsS88.apart (show IsS88 w0 _ g t354 t355 t356 t357 from by repeat (first | (with_reducible first | exact HI0.out | apply IsS88.alloc | apply IsS88.drewN | apply IsS88.drew | apply IsS88.set_0 | apply IsS88.set_1 | apply IsS88.set_2 | apply IsS88.set_3) | exact HI0.out)) (by (with_reducible repeat (first | apply Kd.R_alloc | apply Kd.R_drewN | apply Kd.R_drew)); exact HO_3.out) (by decide)) hk (fun _ h => h.2)) (fun _ h => h.1)); have n1_ := Aside0.mk (KeepBut.trans (by repeat (first | (with_reducible first | exact HK.out | apply KeepBut.set_ | apply keep_drewN | apply keep_drew | apply keep_alloc) | exact HK.out)) hk (.inl rfl)); have n2_ := Aside0.mk (hb); have n3_ := Aside0.mk (hi); clear HO_3; clear HK; clear HB; clear HI0; have HO_3 := n0_; have HK := n1_; have HB := n2_; have HI0 := n3_; clear n0_ n1_ n2_ n3_; (try clear hb); (try clear hb2); (try clear hk); (try clear hi)))
     go_ret
     exact ⟨_, by first | rfl | (simp [errW_none, errW_some] <;> rfl) | (simp [*, errW_none, errW_some] <;> rfl), by (with_reducible repeat (first | apply Kd.R_alloc | apply Kd.R_drewN | apply Kd.R_drew)); exact HO_3.out, by repeat (first | (with_reducible first | exact HI0.out | apply IsS88.alloc | apply IsS88.drewN | apply IsS88.drew | apply IsS88.set_0 | apply IsS88.set_1 | apply IsS88.set_2 | apply IsS88.set_3) | exact HI0.out), by repeat (first | (with_reducible first | exact HB.out | apply below_alloc | apply pw_below_drewN | apply below_drew1 | refine below_set ?_ (IsS88.ge HI0.out)) | exact HB.out), by repeat (first | (with_reducible first | exact HK.out | apply KeepBut.set_ | apply keep_drewN | apply keep_drew | apply keep_alloc) | exact HK.out)⟩
   ·replace c5 := Bool.eq_false_iff.mpr c5
    subst c5
    have H1 : ((encode_Reader_Close.f t349 t350 t351 t352).bind fun bt370 => (some (x3_1, bt370.1, bt370.2.1, bt370.2.2.1, bt370.2.2.2))) = some (r1, r2, r3, r4, r5) := by rw [if_neg (show ¬ (false = true) by decide)] at H; exact H
    clear H
    have H := H1
    clear H1
    replace H := Option.bind_eq_some_iff.mp H
    obtain ⟨⟨t370, t371, t372, t373⟩, A180, H⟩ := H
    replace H : (some (x3_1, t370, t371, t372, t373)) = some (r1, r2, r3, r4, r5) := H
    have A18 := Aside0.mk A180
    clear A180
    simp only [Option.some.injEq, Prod.mk.injEq] at H
    obtain ⟨rfl, rfl, rfl, rfl, rfl⟩ := H
    go_wp2_with (first | ((with_reducible refine gate_callee (f := 39) rfl ?_); refine goesL_ (some 7) rfl rfl Tryd.func39 (by kernel_rfl) rfl #[.pointer (some ⟨g, 0, none⟩)] rfl (by (try simp only [List.map_toArray, List.map_cons, List.map_nil]); first | done | rfl | (simp only [List.length_drop, List.length_take]; rfl)) ?_; (with_reducible refine (encode_Reader_More.calls g x1000_1 x1001_1 x1002_1 x1003_1 false t349 t350 t351 t352 w0 _ ?side1 ?side2 A4.out).mono ?_); (case side1 => repeat (first | (with_reducible first | exact HI0.out | apply IsS88.alloc | apply IsS88.drewN | apply IsS88.drew | apply IsS88.set_0 | apply IsS88.set_1 | apply IsS88.set_2 | apply IsS88.set_3) | exact HI0.out)); (case side2 => repeat (first | (with_reducible first | exact HB.out | apply below_alloc | apply pw_below_drewN | apply below_drew1 | refine below_set ?_ (IsS88.ge HI0.out)) | exact HB.out)); rintro e w19 ⟨rfl, hi, hb, hk⟩; refine ⟨_, rfl, ?_⟩; have n0_ := Aside0.mk (Kd.R_mono (Kd.R_keep (IsS88.apart (show IsS88 w0 _ g x1000_1 x1001_1 x1002_1 x1003_1 from by repeat (first | (with_reducible first | exact HI0.out | apply IsS88.alloc | apply IsS88.drewN | apply IsS88.drew | apply IsS88.set_0 | apply IsS88.set_1 | apply IsS88.set_2 | apply IsS88.set_3) | exact HI0.out)) (by (with_reducible repeat (first | apply Kd.R_alloc | apply Kd.R_drewN | apply Kd.R_drew)); exact HO_3.out) (by decide)) hk (fun _ h => h.2)) (fun _ h => h.1)); have n1_ := Aside0.mk (KeepBut.trans (by repeat (first | (with_reducible first | exact HK.out | apply KeepBut.set_ | apply keep_drewN | apply keep_drew | apply keep_alloc) | exact HK.out)) hk (.inl rfl)); have n2_ := Aside0.mk (hb); have n3_ := Aside0.mk (hi); clear HO_3; clear HK; clear HB; clear HI0; have HO_3 := n0_; have HK := n1_; have HB := n2_; have HI0 := n3_; clear n0_ n1_ n2_ n3_; (try clear hb); (try clear hb2); (try clear hk); (try clear hi)) | ((with_reducible refine gate_callee (f := 41) rfl ?_); refine goesL_ (some 19) rfl rfl Tryd.func41 (by kernel_rfl) rfl #[.pointer (some ⟨g, 0, none⟩)] rfl (by (try simp only [List.map_toArray, List.map_cons, List.map_nil]); first | done | rfl | (simp only [List.length_drop, List.length_take]; rfl)) ?_; (with_reducible refine (encode_Reader_Close.calls g t349 t350 t351 t352 t370 t371 t372 t373 w0 _ ?side1 ?side2 A18.out).mono ?_); (case side1 => repeat (first | (with_reducible first | exact HI0.out | apply IsS88.alloc | apply IsS88.drewN | apply IsS88.drew | apply IsS88.set_0 | apply IsS88.set_1 | apply IsS88.set_2 | apply IsS88.set_3) | exact HI0.out)); (case side2 => repeat (first | (with_reducible first | exact HB.out | apply below_alloc | apply pw_below_drewN | apply below_drew1 | refine below_set ?_ (IsS88.ge HI0.out)) | exact HB.out)); rintro e w20 ⟨rfl, hi, hb, hk⟩; refine ⟨_, rfl, ?_⟩; have n0_ := Aside0.mk (Kd.R_mono (Kd.R_keep (IsS88.apart (show IsS88 w0 _ g t349 t350 t351 t352 from by repeat (first | (with_reducible first | exact HI0.out | apply IsS88.alloc | apply IsS88.drewN | apply IsS88.drew | apply IsS88.set_0 | apply IsS88.set_1 | apply IsS88.set_2 | apply IsS88.set_3) | exact HI0.out)) (by (with_reducible repeat (first | apply Kd.R_alloc | apply Kd.R_drewN | apply Kd.R_drew)); exact HO_3.out) (by decide)) hk (fun _ h => h.2)) (fun _ h => h.1)); have n1_ := Aside0.mk (KeepBut.trans (by repeat (first | (with_reducible first | exact HK.out | apply KeepBut.set_ | apply keep_drewN | apply keep_drew | apply keep_alloc) | exact HK.out)) hk (.inl rfl)); have n2_ := Aside0.mk (hb); have n3_ := Aside0.mk (hi); clear HO_3; clear HK; clear HB; clear HI0; have HO_3 := n0_; have HK := n1_; have HB := n2_; have HI0 := n3_; clear n0_ n1_ n2_ n3_; (try clear hb); (try clear hb2); (try clear hk); (try clear hi)))
    go_ret
    exact ⟨_, by first | rfl | (simp [errW_none, errW_some] <;> rfl) | (simp [*, errW_none, errW_some] <;> rfl), by (with_reducible repeat (first | apply Kd.R_alloc | apply Kd.R_drewN | apply Kd.R_drew)); exact HO_3.out, by repeat (first | (with_reducible first | exact HI0.out | apply IsS88.alloc | apply IsS88.drewN | apply IsS88.drew | apply IsS88.set_0 | apply IsS88.set_1 | apply IsS88.set_2 | apply IsS88.set_3) | exact HI0.out), by repeat (first | (with_reducible first | exact HB.out | apply below_alloc | apply pw_below_drewN | apply below_drew1 | refine below_set ?_ (IsS88.ge HI0.out)) | exact HB.out), by repeat (first | (with_reducible first | exact HK.out | apply KeepBut.set_ | apply keep_drewN | apply keep_drew | apply keep_alloc) | exact HK.out)⟩
end Go.Proofs.YtfpopmojlmpopaaDoor.G

end
section
namespace Go.Proofs.YtfpopmojlmpopaaDoor.G
open Go.RowKit Go.Proofs.YtfpopmojlmpopaaDoorW.PrintWords Go.Proofs.YtfpopmojlmpopaaDoorW.PrintLast Go.Proofs.YtfpopmojlmpopaaDoorW.PrintMore
attribute [local go_sem] max2_int min2_int max_two min_two max_three min_three max_four min_four
set_option linter.unusedVariables false
set_option linter.unusedSimpArgs false
def encode_NewReader.f (a0 : ByteArray) : Option (ByteArray × Int × Int × Int) := some (a0, 0, 0, 0)
set_option maxHeartbeats 8000000 in
set_option maxRecDepth 100000 in
theorem encode_NewReader.calls (a0 : ByteArray) (r1 : ByteArray) (r2 : Int) (r3 : Int) (r4 : Int) (w0 w : World) (hB : Below w0.heap.size w0 w) (h : encode_NewReader.f a0 = some (r1, r2, r3, r4)) :
  Calls Tryd.prog 35 #[.string a0] w fun e w' => ∃ g_ : Nat, e = .returned (.pointer (some ⟨g_, 0, none⟩)) ∧ IsS88 w0 w' g_ r1 r2 r3 r4 ∧ Below w0.heap.size w0 w' ∧ Below w.heap.size w w' := by
 have hu88 := Tryd.underlying88
 have HBW := Aside0.mk (Below.refl w.heap.size w)
 have HW0 := Aside0.mk hB.size
 have HB := Aside0.mk hB
 clear hB
 have H : (some (a0, 0, 0, 0)) = some (r1, r2, r3, r4) := h
 clear h
 simp only [Option.some.injEq, Prod.mk.injEq] at H
 obtain ⟨rfl, rfl, rfl, rfl⟩ := H
 go_enter Tryd.func35, Tryd.ntmps35
 go_wp2_with (first | ((with_reducible refine gate_dst (N := 5) rfl ?_); refine box_event ?hg (N := 5) ?hd (cs := #[.string a0, .int .i64 0, .int .i64 0, .int .i64 0]) (t := 88) ?hr ?_; (case hd => rfl); (case hg => rfl); (case hr => first | (go_simp; done) | (go_simp; rfl)); intro gb374 hg w2 hbox hb; have n0_ := Aside0.mk (below_step HBW.out hb); have n1_ := Aside0.mk (below_step (by repeat (first | (with_reducible first | exact HB.out | apply below_alloc | apply pw_below_drewN | apply below_drew1) | exact HB.out)) hb); have n2_ := Aside0.mk (hbox); have n3_ := Aside0.mk ((by rw [hg]; exact (below_size (by repeat (first | (with_reducible first | exact HBW.out | apply below_alloc | apply pw_below_drewN | apply below_drew1) | exact HBW.out))) : w.heap.size ≤ gb374)); have n4_ := Aside0.mk ((Nat.le_trans HW0.out (by rw [hg]; exact (below_size (by repeat (first | (with_reducible first | exact HBW.out | apply below_alloc | apply pw_below_drewN | apply below_drew1) | exact HBW.out))) : w.heap.size ≤ gb374) : w0.heap.size ≤ gb374)); clear HBW; clear HB; have HBW := n0_; have HB := n1_; have BK374 := n2_; have GW374 := n3_; have GE374 := n4_; clear n0_ n1_ n2_ n3_ n4_; clear hb hbox hg))
 go_ret
 exact ⟨_, rfl, (show IsS88 w0 _ gb374 a0 0 0 0 from ⟨by (with_reducible repeat (first | refine blk_drewN ?_ _ | refine blk_drew ?_ | refine blk_alloc ?_ _)); exact BK374.out, GE374.out⟩), by repeat (first | (with_reducible first | exact HB.out | apply below_alloc | apply pw_below_drewN | apply below_drew1 | refine below_set ?_ GE374.out) | exact HB.out), by repeat (first | (with_reducible first | exact HBW.out | apply below_alloc | apply pw_below_drewN | apply below_drew1 | refine below_set ?_ GW374.out) | exact HBW.out)⟩
end Go.Proofs.YtfpopmojlmpopaaDoor.G

end
section
namespace Go.Proofs.YtfpopmojlmpopaaDoor.H
open Go.RowKit Go.Proofs.YtfpopmojlmpopaaDoorW.PrintWords Go.Proofs.YtfpopmojlmpopaaDoorW.PrintLast Go.Proofs.YtfpopmojlmpopaaDoorW.PrintMore Go.Proofs.YtfpopmojlmpopaaDoor.G
set_option linter.unusedVariables false
set_option linter.unusedSimpArgs false
abbrev St := ByteArray × Int × Int × Int
def rdInt (t : St) : Option (Int × St) := encode_Reader_Int.f t.1 t.2.1 t.2.2.1 t.2.2.2
def rdOpen (t : St) : Option St := encode_Reader_Open.f t.1 t.2.1 t.2.2.1 t.2.2.2
def rdClose (t : St) : Option St := encode_Reader_Close.f t.1 t.2.1 t.2.2.1 t.2.2.2
def rdMore (t : St) : Option (Bool × St) := encode_Reader_More.f t.1 t.2.1 t.2.2.1 t.2.2.2
def rdErr (t : St) : Option (Int × St) := encode_Reader_Err.f t.1 t.2.1 t.2.2.1 t.2.2.2
def rdEnd (t : St) : Option (Int × St) := encode_Reader_End.f t.1 t.2.1 t.2.2.1 t.2.2.2
def rdLines (K : Nat) (t : St) : Option (List ByteArray × St) := frame_getLines.f K t.1 t.2.1 t.2.2.1 t.2.2.2
def rdEdit (K : Nat) (t : St) : Option (S52 × St) :=
 (rdOpen t).bind fun t1 => (rdInt t1).bind fun a => (rdInt a.2).bind fun d => (rdLines K d.2).bind fun l => (rdClose l.2).bind fun t2 => some (⟨a.1, d.1, l.1⟩, t2)
def edLoop (K : Nat) : Nat → List S52 → St → Option (List S52 × St)
 | 0, _, _ => none
 | k + 1, es, t => (rdMore t).bind fun m => if m.1 = true then (rdErr m.2).bind fun er => if er.1 = 0 then (rdEdit K er.2).bind fun x => if es.length < 1000000000000 then edLoop K k (es ++ [x.1]) x.2 else none else some (es, er.2) else some (es, m.2)
def decBody (K : Nat) (s : ByteArray) : Option (Int × Int × Int × Int × Int × List ByteArray × List S52 × Int) :=
 (rdOpen (s, 0, 0, 0)).bind fun t => (rdInt t).bind fun a0 => (rdInt a0.2).bind fun a1 => (rdInt a1.2).bind fun a2 => (rdInt a2.2).bind fun a3 => (rdInt a3.2).bind fun a4 =>
 (rdLines K a4.2).bind fun ls => (rdOpen ls.2).bind fun t => (edLoop K K [] t).bind fun es => (rdClose es.2).bind fun t => (rdClose t).bind fun t => (rdEnd t).bind fun e =>
 if e.1 = 0 then (frame_Check.f K a0.1 a1.1 a2.1 a3.1 a4.1 ls.1 es.1).bind fun c => if c = 0 then some (a0.1, a1.1, a2.1, a3.1, a4.1, ls.1, es.1, 0) else some (0, 0, 0, 0, 0, [], [], 2)
 else some (0, 0, 0, 0, 0, [], [], 2)
def frame_Decode.f (K : Nat) (l0 : List Int) : Option (Int × Int × Int × Int × Int × List ByteArray × List S52 × Int) :=
 if l0.length < 4 then some (0, 0, 0, 0, 0, [], [], 12)
 else (frame_Sum.f (l0.take (l0.length - 4))).bind fun c => if digs c = l0.drop (l0.length - 4) then decBody K (strOfNums (l0.take (l0.length - 4))) else some (0, 0, 0, 0, 0, [], [], 12)
def zF : Array Value := #[.int .i64 0, .int .i64 0, .int .i64 0, .int .i64 0, .int .i64 0, .slice none 0 0, .slice none 0 0]
structure DS (w : World) (X : Nat → Prop) (gf gr : Nat) (t : St) (a0 a1 a2 a3 a4 : Int) (vl : Value) (ls : List ByteArray) (ve : Value) (es : List S52) (W : World) : Prop where
 hI : IsS88 w W gr t.1 t.2.1 t.2.2.1 t.2.2.2
 hB : Below w.heap.size w W
 hF : W.heap[gf]? = some (.cells #[.int .i64 a0, .int .i64 a1, .int .i64 a2, .int .i64 a3, .int .i64 a4, vl, ve] 31 (0, 0))
 hQ : W.heap[w.heap.size]? = some (.cells zF 31 (0, 0))
 hG : w.heap.size < gf
 hL : Kd.R Kd.string 9 W w.heap.size (fun _ => True) vl ls
 hE : Kd.R k52 52 W w.heap.size X ve es
section
variable {w W W' : World} {X : Nat → Prop} {gf gr : Nat} {t t' : St} {a0 a1 a2 a3 a4 : Int} {vl ve : Value} {ls : List ByteArray} {es : List S52}
theorem DS.ge (h : DS w X gf gr t a0 a1 a2 a3 a4 vl ls ve es W) : w.heap.size ≤ gr := IsS88.ge h.hI
theorem DS.keep (h : DS w X gf gr t a0 a1 a2 a3 a4 vl ls ve es W) (hI : IsS88 w W' gr t'.1 t'.2.1 t'.2.2.1 t'.2.2.2) (hB : Below w.heap.size w W') (hK : KeepBut W W' gr none) : DS w X gf gr t' a0 a1 a2 a3 a4 vl ls ve es W' := by
 obtain ⟨hI0, hB0, hF, hQ, hG, hL, hE⟩ := h
 have hgr : W.heap[gr]? = some (.cells #[.string t.1, .int .i64 t.2.1, .int .i64 t.2.2.1, .int .i64 t.2.2.2] 88 (0, 0)) := hI0.1
 refine ⟨hI, hB, hK.blk hF (fun e => ?_) (by simp), hK.blk hQ (fun e => ?_) (by simp), hG, ?_, ?_⟩
 ·exact IsS88.ne_blk hI0 hF (by decide) e.symm
 ·exact IsS88.ne_blk hI0 hQ (by decide) e.symm
 ·exact Kd.R_mono (Kd.R_keep (Kd.R_types hL hgr (by decide)) hK (fun _ h => h.2)) (fun _ h => h.1)
 ·exact Kd.R_mono (Kd.R_keep (Kd.R_types hE hgr (by decide)) hK (fun _ h => h.2)) (fun _ h => h.1)
theorem DS.drewN (h : DS w X gf gr t a0 a1 a2 a3 a4 vl ls ve es W) (n : Nat) : DS w X gf gr t a0 a1 a2 a3 a4 vl ls ve es (W.drewN n) := ⟨h.hI, pw_below_drewN h.hB n, h.hF, h.hQ, h.hG, Kd.R_drewN h.hL n, Kd.R_drewN h.hE n⟩
theorem DS.gfne (h : DS w X gf gr t a0 a1 a2 a3 a4 vl ls ve es W) : gr ≠ gf := IsS88.ne_blk h.hI h.hF (by decide)
theorem DS.set0 (h : DS w X gf gr t a0 a1 a2 a3 a4 vl ls ve es W) (x : Int) : DS w X gf gr t x a1 a2 a3 a4 vl ls ve es (W.setCell ⟨gf, 0, none⟩ (.int .i64 x)) := ⟨IsS88.far h.hI h.gfne _, below_set h.hB (Nat.le_of_lt h.hG), by simpa using blk_set h.hF 0 (.int .i64 x), blk_far h.hQ (Nat.ne_of_lt h.hG) _, h.hG, Kd.R_set h.hL h.hF (by decide) _ _, Kd.R_set h.hE h.hF (by decide) _ _⟩
theorem DS.set1 (h : DS w X gf gr t a0 a1 a2 a3 a4 vl ls ve es W) (x : Int) : DS w X gf gr t a0 x a2 a3 a4 vl ls ve es (W.setCell ⟨gf, 1, none⟩ (.int .i64 x)) := ⟨IsS88.far h.hI h.gfne _, below_set h.hB (Nat.le_of_lt h.hG), by simpa using blk_set h.hF 1 (.int .i64 x), blk_far h.hQ (Nat.ne_of_lt h.hG) _, h.hG, Kd.R_set h.hL h.hF (by decide) _ _, Kd.R_set h.hE h.hF (by decide) _ _⟩
theorem DS.set2 (h : DS w X gf gr t a0 a1 a2 a3 a4 vl ls ve es W) (x : Int) : DS w X gf gr t a0 a1 x a3 a4 vl ls ve es (W.setCell ⟨gf, 2, none⟩ (.int .i64 x)) := ⟨IsS88.far h.hI h.gfne _, below_set h.hB (Nat.le_of_lt h.hG), by simpa using blk_set h.hF 2 (.int .i64 x), blk_far h.hQ (Nat.ne_of_lt h.hG) _, h.hG, Kd.R_set h.hL h.hF (by decide) _ _, Kd.R_set h.hE h.hF (by decide) _ _⟩
theorem DS.set3 (h : DS w X gf gr t a0 a1 a2 a3 a4 vl ls ve es W) (x : Int) : DS w X gf gr t a0 a1 a2 x a4 vl ls ve es (W.setCell ⟨gf, 3, none⟩ (.int .i64 x)) := ⟨IsS88.far h.hI h.gfne _, below_set h.hB (Nat.le_of_lt h.hG), by simpa using blk_set h.hF 3 (.int .i64 x), blk_far h.hQ (Nat.ne_of_lt h.hG) _, h.hG, Kd.R_set h.hL h.hF (by decide) _ _, Kd.R_set h.hE h.hF (by decide) _ _⟩
theorem DS.set4 (h : DS w X gf gr t a0 a1 a2 a3 a4 vl ls ve es W) (x : Int) : DS w X gf gr t a0 a1 a2 a3 x vl ls ve es (W.setCell ⟨gf, 4, none⟩ (.int .i64 x)) := ⟨IsS88.far h.hI h.gfne _, below_set h.hB (Nat.le_of_lt h.hG), by simpa using blk_set h.hF 4 (.int .i64 x), blk_far h.hQ (Nat.ne_of_lt h.hG) _, h.hG, Kd.R_set h.hL h.hF (by decide) _ _, Kd.R_set h.hE h.hF (by decide) _ _⟩
theorem DS.setL (h : DS w X gf gr t a0 a1 a2 a3 a4 vl ls ve es W) {v : Value} {l : List ByteArray} (hv : Kd.R Kd.string 9 W w.heap.size (fun _ => True) v l) : DS w X gf gr t a0 a1 a2 a3 a4 v l ve es (W.setCell ⟨gf, 5, none⟩ v) := ⟨IsS88.far h.hI h.gfne _, below_set h.hB (Nat.le_of_lt h.hG), by simpa using blk_set h.hF 5 v, blk_far h.hQ (Nat.ne_of_lt h.hG) _, h.hG, Kd.R_set hv h.hF (by decide) _ _, Kd.R_set h.hE h.hF (by decide) _ _⟩
theorem DS.setE (h : DS w X gf gr t a0 a1 a2 a3 a4 vl ls ve es W) {X' : Nat → Prop} {v : Value} {l : List S52} (hv : Kd.R k52 52 W w.heap.size X' v l) : DS w X' gf gr t a0 a1 a2 a3 a4 vl ls v l (W.setCell ⟨gf, 6, none⟩ v) := ⟨IsS88.far h.hI h.gfne _, below_set h.hB (Nat.le_of_lt h.hG), by simpa using blk_set h.hF 6 v, blk_far h.hQ (Nat.ne_of_lt h.hG) _, h.hG, Kd.R_set h.hL h.hF (by decide) _ _, Kd.R_set hv h.hF (by decide) _ _⟩
theorem DS.allocX (h : DS w X gf gr t a0 a1 a2 a3 a4 vl ls ve es W) (o : Obj) : DS w (fun k => k ≠ W.heap.size) gf gr t a0 a1 a2 a3 a4 vl ls ve es (W.alloc o) :=
 ⟨IsS88.alloc h.hI o, below_alloc h.hB o, blk_alloc h.hF o, blk_alloc h.hQ o, h.hG, Kd.R_alloc h.hL o, Kd.R_mono (Kd.R_alloc (Kd.R_bound h.hE) o) (fun k hk => by have := hk.2.2.1; omega)⟩
theorem DS.open_ (h : DS w X gf gr t a0 a1 a2 a3 a4 vl ls ve es W) (ho : rdOpen t = some t') :
  Calls Tryd.prog 36 #[.pointer (some ⟨gr, 0, none⟩)] W fun e w' => e = .returned (.tuple #[]) ∧ DS w X gf gr t' a0 a1 a2 a3 a4 vl ls ve es w' ∧ KeepBut W w' gr none :=
 (encode_Reader_Open.calls gr t.1 t.2.1 t.2.2.1 t.2.2.2 t'.1 t'.2.1 t'.2.2.1 t'.2.2.2 w W h.hI h.hB ho).mono (by rintro e w' ⟨rfl, hi, hb, hk⟩; exact ⟨rfl, h.keep hi hb hk, hk⟩)
theorem DS.close (h : DS w X gf gr t a0 a1 a2 a3 a4 vl ls ve es W) (ho : rdClose t = some t') :
  Calls Tryd.prog 41 #[.pointer (some ⟨gr, 0, none⟩)] W fun e w' => e = .returned (.tuple #[]) ∧ DS w X gf gr t' a0 a1 a2 a3 a4 vl ls ve es w' ∧ KeepBut W w' gr none :=
 (encode_Reader_Close.calls gr t.1 t.2.1 t.2.2.1 t.2.2.2 t'.1 t'.2.1 t'.2.2.1 t'.2.2.2 w W h.hI h.hB ho).mono (by rintro e w' ⟨rfl, hi, hb, hk⟩; exact ⟨rfl, h.keep hi hb hk, hk⟩)
theorem DS.more {b : Bool} (h : DS w X gf gr t a0 a1 a2 a3 a4 vl ls ve es W) (ho : rdMore t = some (b, t')) :
  Calls Tryd.prog 39 #[.pointer (some ⟨gr, 0, none⟩)] W fun e w' => e = .returned (.bool b) ∧ DS w X gf gr t' a0 a1 a2 a3 a4 vl ls ve es w' ∧ KeepBut W w' gr none :=
 (encode_Reader_More.calls gr t.1 t.2.1 t.2.2.1 t.2.2.2 b t'.1 t'.2.1 t'.2.2.1 t'.2.2.2 w W h.hI h.hB ho).mono (by rintro e w' ⟨rfl, hi, hb, hk⟩; exact ⟨rfl, h.keep hi hb hk, hk⟩)
theorem DS.err {b : Int} (h : DS w X gf gr t a0 a1 a2 a3 a4 vl ls ve es W) (ho : rdErr t = some (b, t')) :
  Calls Tryd.prog 40 #[.pointer (some ⟨gr, 0, none⟩)] W fun e w' => e = .returned (.int .i64 b) ∧ DS w X gf gr t' a0 a1 a2 a3 a4 vl ls ve es w' ∧ KeepBut W w' gr none :=
 (encode_Reader_Err.calls gr t.1 t.2.1 t.2.2.1 t.2.2.2 b t'.1 t'.2.1 t'.2.2.1 t'.2.2.2 w W h.hI h.hB ho).mono (by rintro e w' ⟨rfl, hi, hb, hk⟩; exact ⟨rfl, h.keep hi hb hk, hk⟩)
theorem DS.end_ {b : Int} (h : DS w X gf gr t a0 a1 a2 a3 a4 vl ls ve es W) (ho : rdEnd t = some (b, t')) :
  Calls Tryd.prog 42 #[.pointer (some ⟨gr, 0, none⟩)] W fun e w' => e = .returned (.int .i64 b) ∧ DS w X gf gr t' a0 a1 a2 a3 a4 vl ls ve es w' ∧ KeepBut W w' gr none :=
 (encode_Reader_End.calls gr t.1 t.2.1 t.2.2.1 t.2.2.2 b t'.1 t'.2.1 t'.2.2.1 t'.2.2.2 w W h.hI h.hB ho).mono (by rintro e w' ⟨rfl, hi, hb, hk⟩; exact ⟨rfl, h.keep hi hb hk, hk⟩)
theorem DS.int_ {b : Int} (h : DS w X gf gr t a0 a1 a2 a3 a4 vl ls ve es W) (hLd : Laid w) (ho : rdInt t = some (b, t')) :
  Calls Tryd.prog 37 #[.pointer (some ⟨gr, 0, none⟩)] W fun e w' => e = .returned (.int .i64 b) ∧ DS w X gf gr t' a0 a1 a2 a3 a4 vl ls ve es w' ∧ KeepBut W w' gr none :=
 (encode_Reader_Int.calls gr t.1 t.2.1 t.2.2.1 t.2.2.2 b t'.1 t'.2.1 t'.2.2.1 t'.2.2.2 w W hLd h.hI h.hB ho).mono (by rintro e w' ⟨rfl, hi, hb, hk⟩; exact ⟨rfl, h.keep hi hb hk, hk⟩)
theorem DS.lines {K : Nat} {l : List ByteArray} (h : DS w X gf gr t a0 a1 a2 a3 a4 vl ls ve es W) (hLd : Laid w) (ho : rdLines K t = some (l, t')) :
  Calls Tryd.prog 38 #[.pointer (some ⟨gr, 0, none⟩)] W fun e w' => ∃ v, e = .returned v ∧ Kd.R Kd.string 9 w' w.heap.size (fun _ => True) v l ∧ DS w X gf gr t' a0 a1 a2 a3 a4 vl ls ve es w' ∧ KeepBut W w' gr none :=
 (frame_getLines.calls K gr t.1 t.2.1 t.2.2.1 t.2.2.2 l t'.1 t'.2.1 t'.2.2.1 t'.2.2.2 w W hLd h.hI h.hB ho).mono (by rintro e w' ⟨v, rfl, hr, hi, hb, hk⟩; exact ⟨v, rfl, Kd.R_lower hr h.hB.size, h.keep hi hb hk, hk⟩)
structure DX (w : World) (gx : Nat) (x0 x1 : Int) (vx : Value) (lx : List ByteArray) (W : World) : Prop where
 hX : W.heap[gx]? = some (.cells #[.int .i64 x0, .int .i64 x1, vx] 52 (0, 0))
 hV : Kd.R Kd.string 9 W w.heap.size (fun _ => True) vx lx
 hg : w.heap.size ≤ gx
variable {gx : Nat} {x0 x1 : Int} {vx : Value} {lx : List ByteArray}
theorem DX.keep (h : DX w gx x0 x1 vx lx W) (hd : DS w X gf gr t a0 a1 a2 a3 a4 vl ls ve es W) (hK : KeepBut W W' gr none) : DX w gx x0 x1 vx lx W' := by
 have hgr : W.heap[gr]? = some (.cells #[.string t.1, .int .i64 t.2.1, .int .i64 t.2.2.1, .int .i64 t.2.2.2] 88 (0, 0)) := hd.hI.1
 exact ⟨hK.blk h.hX (fun e => IsS88.ne_blk hd.hI h.hX (by decide) e.symm) (by simp), Kd.R_mono (Kd.R_keep (Kd.R_types h.hV hgr (by decide)) hK (fun _ h => h.2)) (fun _ h => h.1), h.hg⟩
theorem DX.set0 (h : DX w gx x0 x1 vx lx W) (x : Int) : DX w gx x x1 vx lx (W.setCell ⟨gx, 0, none⟩ (.int .i64 x)) := ⟨by simpa using blk_set h.hX 0 (.int .i64 x), Kd.R_set h.hV h.hX (by decide) _ _, h.hg⟩
theorem DX.set1 (h : DX w gx x0 x1 vx lx W) (x : Int) : DX w gx x0 x vx lx (W.setCell ⟨gx, 1, none⟩ (.int .i64 x)) := ⟨by simpa using blk_set h.hX 1 (.int .i64 x), Kd.R_set h.hV h.hX (by decide) _ _, h.hg⟩
theorem DX.set2 (h : DX w gx x0 x1 vx lx W) {v : Value} {l : List ByteArray} (hv : Kd.R Kd.string 9 W w.heap.size (fun _ => True) v l) : DX w gx x0 x1 v l (W.setCell ⟨gx, 2, none⟩ v) := ⟨by simpa using blk_set h.hX 2 v, Kd.R_set hv h.hX (by decide) _ _, h.hg⟩
theorem DS.setX (h : DS w (fun k => k ≠ gx) gf gr t a0 a1 a2 a3 a4 vl ls ve es W) (hx : DX w gx x0 x1 vx lx W) (j : Nat) (u : Value) : DS w (fun k => k ≠ gx) gf gr t a0 a1 a2 a3 a4 vl ls ve es (W.setCell ⟨gx, j, none⟩ u) :=
 ⟨IsS88.far h.hI (IsS88.ne_blk h.hI hx.hX (by decide)) u, below_set h.hB hx.hg, blk_far h.hF (blk_ne h.hF hx.hX (by decide)) u, blk_far h.hQ (blk_ne h.hQ hx.hX (by decide)) u, h.hG, Kd.R_set h.hL hx.hX (by decide) _ _, Kd.R_far h.hE (fun _ hk => hk) u⟩
theorem own_52 {W : World} {b : Nat} {v : Value} {X : Nat → Prop} {l : List S52} (h : Kd.R k52 52 W b X v l) (k : Nat) (hk : v.ownBlock = some k) : ∃ cells, W.heap[k]? = some (.cells cells 52 (0, 0)) := by
 obtain ⟨inner, ho⟩ := Kd.R_own h
 exact own_typed ho k hk
theorem DS.appended {W1 : World} {v1 : Value} (h : DS w (fun k => k ≠ gx) gf gr t a0 a1 a2 a3 a4 vl ls ve es W) (hg : W.grownBy W1 ve.ownBlock) (hb : Below w.heap.size w W1) {l : List S52} (hv : Kd.R k52 52 W1 w.heap.size (fun k => k ≠ gx) v1 l) :
  DS w (fun _ => True) gf gr t a0 a1 a2 a3 a4 vl ls v1 l (W1.setCell ⟨gf, 6, none⟩ v1) := by
 have ht : ∀ k cs q, W.heap[k]? = some (.cells cs q (0, 0)) → q ≠ 52 → some k ≠ ve.ownBlock := by
  intro k cs q hk hq he
  obtain ⟨cells, hc⟩ := own_52 h.hE k he.symm
  rw [hk] at hc
  injection hc with hc; injection hc with _ h2 _
  exact hq h2
 have hd : DS w (fun k => k ≠ gx) gf gr t a0 a1 a2 a3 a4 vl ls v1 l W1 → DS w (fun _ => True) gf gr t a0 a1 a2 a3 a4 vl ls v1 l (W1.setCell ⟨gf, 6, none⟩ v1) := fun h' => h'.setE (Kd.R_mono hv (fun _ _ => trivial))
 have hL1 : Kd.R Kd.string 9 W1 w.heap.size (fun _ => True) vl ls := Kd.R_mono (Kd.R_grown (Kd.R_bound h.hL) hg (fun k hk => by
  obtain ⟨_, _, _, q, hq, cells, hc⟩ := hk
  exact ht k cells q hc (by simp [Kd.string, Kd.scalar] at hq; subst hq; decide))) (fun _ _ => trivial)
 refine ⟨IsS88.far (IsS88.grown h.hI hg (ht _ _ _ h.hI.1 (by decide))) ?_ _, below_set hb (Nat.le_of_lt h.hG), by simpa using blk_set (blk_grown h.hF hg (ht _ _ _ h.hF (by decide))) 6 v1, blk_far (blk_grown h.hQ hg (ht _ _ _ h.hQ (by decide))) (Nat.ne_of_lt h.hG) _, h.hG, ?_, ?_⟩
 ·exact h.gfne
 ·exact Kd.R_set hL1 (blk_grown h.hF hg (ht _ _ _ h.hF (by decide))) (by decide) _ _
 ·exact Kd.R_mono (Kd.R_set hv (blk_grown h.hF hg (ht _ _ _ h.hF (by decide))) (by decide) _ _) (fun _ _ => trivial)
theorem DS.grownF {W1 : World} (h : DS w X gf gr t a0 a1 a2 a3 a4 vl ls ve es W) (hg : W.grownBy W1 ve.ownBlock) : W1.heap[gf]? = some (.cells #[.int .i64 a0, .int .i64 a1, .int .i64 a2, .int .i64 a3, .int .i64 a4, vl, ve] 31 (0, 0)) :=
 blk_grown h.hF hg (fun he => by
  obtain ⟨cells, hc⟩ := own_52 h.hE gf he.symm
  rw [h.hF] at hc
  injection hc with hc; injection hc with _ h2 _
  exact absurd h2 (by decide))
theorem DS.elem (h : DS w (fun k => k ≠ gx) gf gr t a0 a1 a2 a3 a4 vl ls ve es W) (hx : DX w gx x0 x1 vx lx W) : ∃ okp : Nat → Prop, k52.M W w.heap.size okp ⟨x0, x1, lx⟩ [.int .i64 x0, .int .i64 x1, vx] ∧ ∀ k, okp k → k ≠ gx ∧ some k ≠ ve.ownBlock := by
 refine ⟨_, k52_mkM W w.heap.size _ ⟨x0, x1, lx⟩ (Kd.R_bound hx.hV), fun k hk => ?_⟩
 obtain ⟨_, _, _, q, hq, cells, hc⟩ := hk
 have hq9 : q = 9 := by simpa [Kd.string, Kd.scalar] using hq
 subst hq9
 constructor
 ·rintro rfl
  rw [hx.hX] at hc
  injection hc with hc; injection hc with _ h2 _
  exact absurd h2 (by decide)
 ·intro he
  obtain ⟨cells', hc'⟩ := own_52 h.hE k he.symm
  rw [hc] at hc'
  injection hc' with hc'; injection hc' with _ h2 _
  exact absurd h2 (by decide)
end
end Go.Proofs.YtfpopmojlmpopaaDoor.H

end
section
namespace Go.Proofs.YtfpopmojlmpopaaDoor.H
open Go.RowKit Go.Proofs.YtfpopmojlmpopaaDoorW.PrintWords Go.Proofs.YtfpopmojlmpopaaDoorW.PrintLast Go.Proofs.YtfpopmojlmpopaaDoorW.PrintMore
set_option linter.unusedVariables false
set_option linter.unusedSimpArgs false
def IsW (B : Nat) (w : World) (g : Nat) (l : List Int) (n : Int) : Prop := B ≤ g ∧ ∃ v, w.heap[g]? = some (.cells #[v, .int .i64 n] 57 (0, 0)) ∧ w.ownsRow B 5 1 v l.length (nums .u8 l)
def WK (B g : Nat) (w w' : World) : Prop := Below B w w' ∧ Lib.OthersKept 5 (some g) w w'
theorem WK.refl (B g : Nat) (w : World) : WK B g w w := ⟨Below.refl _ _, Lib.OthersKept.refl _ _ _⟩
theorem WK.trans {B g : Nat} {a b c : World} (h : WK B g a b) (k : WK B g b c) : WK B g a c := ⟨h.1.trans k.1, h.2.trans k.2⟩
theorem WK.alloc {B g : Nat} {a w : World} (h : WK B g a w) (hB : B ≤ w.heap.size) (o : Obj) : WK B g a (w.alloc o) := ⟨h.1.alloc hB o, h.2.alloc o⟩
theorem WK.setW {B g : Nat} {a w : World} (h : WK B g a w) (hB : B ≤ g) (j : Nat) (u : Value) : WK B g a (w.setCell ⟨g, j, none⟩ u) := ⟨h.1.setCell hB u, h.2.setCell _ rfl u⟩
theorem WK.grown {B g : Nat} {a w w1 : World} (h : WK B g a w) (hB : B ≤ w.heap.size) {v : Value} {n : Nat} {xs : List Value} (ho : w.ownsRow B 5 1 v n xs) (hg : w.grownBy w1 v.ownBlock) : WK B g a w1 :=
 ⟨h.1.grown hg hB (fun k hk => own_base ho k hk), h.2.grown hg (fun k hk => by obtain ⟨c, hc⟩ := own_typed ho k hk; exact ⟨c, _, hc⟩)⟩
theorem WK.below {B g : Nat} {a w w1 : World} (h : WK B g a w) (hB : B ≤ w.heap.size) (hb : Below w.heap.size w w1) : WK B g a w1 := ⟨h.1.trans (hb.mono hB), h.2.below hb⟩
theorem WK.blk {B g : Nat} {w w1 : World} (h : WK B g w w1) {g' t : Nat} {cs : Array Value} (hb : w.heap[g']? = some (.cells cs t (0, 0))) (hg : g' ≠ g) (ht : t ≠ 5) : w1.heap[g']? = some (.cells cs t (0, 0)) :=
 h.2 g' _ hb (fun e => hg (Option.some.inj e)) (fun c fz e => ht (by injection e))
theorem IsW.alloc {B g : Nat} {w : World} {l : List Int} {n : Int} (h : IsW B w g l n) (o : Obj) : IsW B (w.alloc o) g l n := by
 obtain ⟨h1, v, hb, ho⟩ := h
 exact ⟨h1, v, blk_grown hb (World.grownBy_alloc w o none) (by simp), ho.alloc o⟩
theorem IsW.lt {B g : Nat} {w : World} {l : List Int} {n : Int} (h : IsW B w g l n) : g < w.heap.size := by
 obtain ⟨h1, v, hb, ho⟩ := h
 exact blk_lt hb
theorem IsW.far {B g : Nat} {w : World} {l : List Int} {n : Int} (h : IsW B w g l n) {g' t : Nat} {cs : Array Value} (hb : w.heap[g']? = some (.cells cs t (0, 0))) (hg : g' ≠ g) (ht : t ≠ 5) (j : Nat) (u : Value) : IsW B (w.setCell ⟨g', j, none⟩ u) g l n := by
 obtain ⟨h1, v, hbg, ho⟩ := h
 exact ⟨h1, v, blk_far hbg (Ne.symm hg) u, own_setCell ho (own_ne ho hb (Ne.symm ht)) u⟩
theorem IsW.put {B g : Nat} {W w1 : World} {v v1 : Value} {n : Int} {m : Nat} {xs : List Value} {l' : List Int} (hg : B ≤ g) (hb : W.heap[g]? = some (.cells #[v, .int .i64 n] 57 (0, 0))) (ho : W.ownsRow B 5 1 v m xs) {m1 : Nat} (ho1 : w1.ownsRow B 5 1 v1 m1 (nums .u8 l')) (hm : m1 = l'.length) (hgr : W.grownBy w1 v.ownBlock) :
  IsW B (w1.setCell ⟨g, 0, none⟩ v1) g l' n := by
 subst hm
 have hb1 := blk_grown hb hgr (own_ne ho hb (by decide))
 have hs := blk_set hb1 0 v1
 exact ⟨hg, v1, by simpa using hs, own_setCell ho1 (own_ne ho1 hb1 (by decide)) v1⟩
theorem IsW.setN {B g : Nat} {W : World} {n : Int} {l : List Int} (h : IsW B W g l n) (m : Int) : IsW B (W.setCell ⟨g, 1, none⟩ (.int .i64 m)) g l m := by
 obtain ⟨hg, v, hb, ho⟩ := h
 exact ⟨hg, v, by simpa using blk_set hb 1 (.int .i64 m), own_setCell ho (own_ne ho hb (by decide)) _⟩
theorem WK.of_drew {B g D T : Nat} {w W2 w3 : World} {cs : Array Value} (h : WK B g w W2) (hg : W2.drew.grownBy w3 (some D)) (hD : W2.heap[D]? = some (.cells cs T (0, 0))) (hB : B ≤ D) (hT : w.heap.size ≤ D) : WK B g w w3 := by
 refine ⟨h.1.trans ⟨hg.os, hg.tape, hg.output, hg.size, fun k hk => hg.block k (by have := blk_lt hD; exact Nat.lt_trans (Nat.lt_of_lt_of_le hk hB) this) (fun e => by injection e with e; omega)⟩, fun k o hk hb ho => ?_⟩
 have h1 := h.2 k o hk hb ho
 have hlt : k < w.heap.size := (Array.getElem?_eq_some_iff.1 hk).1
 rw [hg.block k (by have := (Array.getElem?_eq_some_iff.1 h1).1; exact this) (fun e => by injection e with e; omega)]
 exact h1
section
variable {P : Program} {ops : Array Oper} {rest : List Oper} {o : Oper} {a : Act} {Q : Exit → Act → World → Prop}
theorem put_num {B g T : Nat} {W : World} {v : Value} {n : Int} (l : List Int) (y : Int) (D : Nat) (hD : D = W.heap.size) (hgd : o.guard = none) (s x : Operand) (t e : TypeId)
  (ho : o.op = .call { callee := .builtin .append, args := #[s, x], argTypes := #[t, t] })
  (ht : P.underlying t = some (.slice e)) (hinfo : (P.info? e).map (fun i => (i.zero, i.size, i.bytes)) = some (some (.int .u8 0), 1, 1))
  (hs : a.eval s = v) (hx : a.eval x = .slice (some ⟨D, 0, none⟩) 1 1)
  (HB : W.heap[g]? = some (.cells #[v, .int .i64 n] T (0, 0))) (hT : e ≠ T) (HO : W.ownsRow B e 1 v l.length (nums .u8 l)) (hbase : B ≤ W.heap.size) (hl : l.length + 1 ≤ 140737488355328)
  (h : ∀ A1 k1 w1, Hid (w1.ownsRow B e 1 (.slice A1 (l.length + 1) k1) (l.length + 1) (nums .u8 (l ++ [y]))) → Hid (W.grownBy w1 v.ownBlock) → w1.cell? ⟨g, 0, none⟩ = some v → w1.cell? ⟨g, 1, none⟩ = some (.int .i64 n) → w1.frozen? ⟨g, 0, none⟩ = false → w1.frozen? ⟨g, 1, none⟩ = false → wpList P ops Q rest (a.put o.dst (.slice A1 (l.length + 1) k1)) w1) :
  wpList P ops Q (o :: rest) a (W.alloc (.cells #[.int .u8 y] e)) := by
 subst hD
 refine print_append_num B hgd s x t e .u8 1 ho ht hinfo (by decide) v l y hs hx HO (Below.refl _ _) hbase (by omega) ?_
 intro v1 w1 ho1 hb1 hg1 hat
 obtain ⟨A1, k1, rfl⟩ := own_slice ho1
 have hbk := blk_grown HB hg1 (own_ne HO HB hT)
 rw [show (l ++ [y]).length = l.length + 1 from List.length_append] at ho1 ⊢
 exact h A1 k1 w1 (Lib.hid ho1) (Lib.hid hg1) ((blk_cell hbk 0).trans rfl) ((blk_cell hbk 1).trans rfl) (blk_frozen hbk 0) (blk_frozen hbk 1)
end
set_option maxHeartbeats 400000 in
theorem Writer_Open (B g : Nat) (l : List Int) (n : Int) (w : World) (hI : IsW B w g l n) (hBw : B ≤ w.heap.size) (hn0 : 0 ≤ n) (hn1 : n ≤ 1000) (hl : l.length + 1 ≤ 140737488355328) :
  Calls Tryd.prog 29 #[.pointer (some ⟨g, 0, none⟩)] w fun e w' => e = .returned (.tuple #[]) ∧ IsW B w' g (l ++ [108]) (n + 1) ∧ WK B g w w' := by
 obtain ⟨hBg, v, hb, ho⟩ := hI
 have c0 : w.cell? ⟨g, 0, none⟩ = some v := (blk_cell hb 0).trans rfl
 have HB := Lib.hid hb
 have HO := Lib.hid ho
 clear hb ho
 go_enter Tryd.func29, Tryd.ntmps29
 go_wp2_with (at_builtin; refine print_append_num B rfl _ _ 22 5 .u8 1 rfl Tryd.underlying22 info5 (by decide) v l 108 rfl rfl HO.out (Below.refl _ _) hBw (by omega) ?_; intro v1 w1 ho1 hb1 hg1 hat; obtain ⟨A1, k1, rfl⟩ := own_slice ho1; rw [show (l ++ [(108 : Int)]).length = l.length + 1 from List.length_append] at ho1; have hbk := blk_grown HB.out hg1 (own_ne HO.out HB.out (by decide)); have d0 : w1.cell? ⟨g, 0, none⟩ = some v := (blk_cell hbk 0).trans rfl; have d1 : w1.cell? ⟨g, 1, none⟩ = some (.int .i64 n) := (blk_cell hbk 1).trans rfl; have f0 : w1.frozen? ⟨g, 0, none⟩ = false := blk_frozen hbk 0; have f1 : w1.frozen? ⟨g, 1, none⟩ = false := blk_frozen hbk 1; have HO1 := Lib.hid ho1; have HG1 := Lib.hid hg1; clear hat hb1 hg1 ho1 hbk)
 first | go_end0 | ((try simp only [Exit.inBlock, Exit.then]); refine bodyPost_ret (results_none rfl _ _ _) rfl ?_)
 exact ⟨rfl, (IsW.put hBg HB.out HO.out HO1.out (by rw [List.length_append]; rfl) HG1.out).setN _, (((WK.refl B g w).grown hBw HO.out HG1.out).setW hBg _ _).setW hBg _ _⟩
set_option maxHeartbeats 400000 in
theorem Writer_Close (B g : Nat) (l : List Int) (n : Int) (w : World) (hI : IsW B w g l n) (hBw : B ≤ w.heap.size) (hn0 : 1 ≤ n) (hn1 : n ≤ 1000) (hl : l.length + 1 ≤ 140737488355328) :
  Calls Tryd.prog 32 #[.pointer (some ⟨g, 0, none⟩)] w fun e w' => e = .returned (.tuple #[]) ∧ IsW B w' g (l ++ [101]) (n - 1) ∧ WK B g w w' := by
 obtain ⟨hBg, v, hb, ho⟩ := hI
 have c0 : w.cell? ⟨g, 0, none⟩ = some v := (blk_cell hb 0).trans rfl
 have c1 : w.cell? ⟨g, 1, none⟩ = some (.int .i64 n) := (blk_cell hb 1).trans rfl
 have HB := Lib.hid hb
 have HO := Lib.hid ho
 clear hb ho
 go_enter Tryd.func32, Tryd.ntmps32
 go_wp2_with (at_builtin; refine print_append_num B rfl _ _ 22 5 .u8 1 rfl Tryd.underlying22 info5 (by decide) v l 101 rfl rfl HO.out (Below.refl _ _) hBw (by omega) ?_; intro v1 w1 ho1 hb1 hg1 hat; obtain ⟨A1, k1, rfl⟩ := own_slice ho1; rw [show (l ++ [(101 : Int)]).length = l.length + 1 from List.length_append] at ho1; have hbk := blk_grown HB.out hg1 (own_ne HO.out HB.out (by decide)); have d0 : w1.cell? ⟨g, 0, none⟩ = some v := (blk_cell hbk 0).trans rfl; have d1 : w1.cell? ⟨g, 1, none⟩ = some (.int .i64 n) := (blk_cell hbk 1).trans rfl; have f0 : w1.frozen? ⟨g, 0, none⟩ = false := blk_frozen hbk 0; have f1 : w1.frozen? ⟨g, 1, none⟩ = false := blk_frozen hbk 1; have HO1 := Lib.hid ho1; have HG1 := Lib.hid hg1; clear hat hb1 hg1 ho1 hbk)
 first | go_end0 | ((try simp only [Exit.inBlock, Exit.then]); refine bodyPost_ret (results_none rfl _ _ _) rfl ?_)
 exact ⟨rfl, (IsW.put hBg HB.out HO.out HO1.out (by rw [List.length_append]; rfl) HG1.out).setN _, (((WK.refl B g w).grown hBw HO.out HG1.out).setW hBg _ _).setW hBg _ _⟩
def bl (l : List UInt8) : List Int := l.map fun b => (b.toNat : Int)
theorem bl_length (l : List UInt8) : (bl l).length = l.length := by simp [bl]
theorem nums_bl (l : List UInt8) : nums .u8 (bl l) = Lib.byteCells l := by simp [nums, bl, Lib.byteCells]
theorem itoa_len (n : Int) (h0 : 0 ≤ n) (h1 : n ≤ 9223372036854775807) : (Lib.itoa n).length ≤ 20 := by
 obtain ⟨u, rfl⟩ : ∃ u : Nat, n = u := ⟨n.toNat, by omega⟩
 rw [Lib.itoa_nonneg]
 exact decDigits_len20 u (by omega)
theorem IsW.open_ {B g : Nat} {w : World} {l : List Int} {n : Int} (h : IsW B w g l n) : ∃ A c, w.cell? ⟨g, 0, none⟩ = some (.slice A l.length c) ∧ w.cell? ⟨g, 1, none⟩ = some (.int .i64 n) ∧ w.frozen? ⟨g, 0, none⟩ = false ∧ w.frozen? ⟨g, 1, none⟩ = false ∧ w.heap[g]? = some (.cells #[.slice A l.length c, .int .i64 n] 57 (0, 0)) ∧ w.ownsRow B 5 1 (.slice A l.length c) l.length (nums .u8 l) := by
 obtain ⟨hBg, v, hb, ho⟩ := h
 obtain ⟨A, c, rfl⟩ := own_slice ho
 exact ⟨A, c, (blk_cell hb 0).trans rfl, (blk_cell hb 1).trans rfl, blk_frozen hb 0, blk_frozen hb 1, hb, ho⟩
section
variable {P : Program} {ops : Array Oper} {o : Oper} {a : Act} {K : Act → World → Prop} {Q : Exit → Act → World → Prop} {E : Prop} {w : World}
theorem step_app (base : Nat) (s x : Operand) (t e : TypeId) (bytes : Nat) (hgd : o.guard = none) (N : Option Tmp) (hN : o.dst = N)
  (ho : o.op = .call { callee := .builtin .append, args := #[s, x], argTypes := #[t, t] }) (ht : P.underlying t = some (.slice e))
  {z : Value} (hinfo : (P.info? e).map (fun i => (i.zero, i.size, i.bytes)) = some (some z, 1, bytes)) (hz : z.cells.size = 1)
  (v : Value) (n : Nat) (xs : List Value) (hs : a.eval s = v) (hown : w.ownsRow base e 1 v n xs) (ad : Addr) (m c : Nat) (news : List Value) (hx : a.eval x = .slice (some ad) m c)
  (hl : news.length = m * 1) (hnews : ∀ j u, news[j]? = some u → w.cell? (ad.add j) = some u) (h1 : ∀ u ∈ news, u.oneCell' = true) (h63 : n + m ≤ maxLen) (hbytes : (n + m) * bytes ≤ 140737488355328) (hbase : base ≤ w.heap.size)
  (h : ∀ A1 k1 w', w'.ownsRow base e 1 (.slice A1 (n + m) k1) (n + m) (xs ++ news) → w.grownBy w' v.ownBlock → K (a.put N (.slice A1 (n + m) k1)) w') :
  if Region.wanted o (yielded ops a.tmps) = true then Oper.wp P o a w K Q else E := by
 obtain ⟨i0, hi, hz0, hz1, hz2⟩ := info_parts hinfo
 have hw : Region.wanted o (yielded ops a.tmps) = true := by simp [Region.wanted, hgd]
 rw [if_pos hw]
 subst hN
 refine wp_append_own w s x t ho base e i0 z 1 bytes ht hi hz0 hz1 hz2 hz (by decide) v n xs hs hown ad m c news hx hl hnews h1 h63 hbytes hbase ?_
 intro v' w' h2 h3 _
 obtain ⟨A1, k1, rfl⟩ := own_slice h2
 exact h A1 k1 w' h2 h3
end
theorem itoa_pos (n : Int) (h0 : 0 ≤ n) : 0 < (Lib.itoa n).length := by
 obtain ⟨u, rfl⟩ : ∃ u : Nat, n = u := ⟨n.toNat, by omega⟩
 rw [Lib.itoa_nonneg, Lib.decDigits_length]
 by_cases h : u < 10
 ·rw [Lib.nDigits_small h]; omega
 ·rw [Lib.nDigits_big (by omega)]; omega
set_option maxHeartbeats 4000000 in
set_option maxRecDepth 100000 in
theorem Writer_Int (B g : Nat) (l : List Int) (n : Int) (i : Int) (w : World) (hI : IsW B w g l n) (hBw : B ≤ w.heap.size) (hi0 : 0 ≤ i) (hi1 : i ≤ 9223372036854775807) (hl : l.length + 50 ≤ 140737488355328)
  (htab : 100 ≤ i → Lib.TabBelow Tryd.prog B w "internal/strconv.uint64pow10" .u64 Lib.pow10Tab) :
  Calls Tryd.prog 30 #[.pointer (some ⟨g, 0, none⟩), .int .i64 i] w fun e w' => e = .returned (.tuple #[]) ∧ IsW B w' g (l ++ (105 :: bl (Lib.itoa i) ++ [59])) n ∧ WK B g w w' := by
 have hgl := hI.lt
 have hBg := hI.1
 obtain ⟨A0, cp0, c0, c1, f0, f1, hb, ho⟩ := hI.open_
 have HB := Lib.hid hb
 have HO := Lib.hid ho
 have HT := Lib.hid htab
 have hil := itoa_len i hi0 hi1
 have hip := itoa_pos i hi0
 obtain ⟨i0, hi, hz0, hz1, hz2⟩ := info_parts info5
 clear hb ho htab
 go_enter Tryd.func30, Tryd.ntmps30
 go_wp2_with (at_builtin; refine put_num l 105 (w.heap.size + 1) (by simp) rfl _ _ 22 5 rfl Tryd.underlying22 info5 rfl rfl (blk_grown HB.out (World.grownBy_alloc w _ none) (by simp)) (by decide) (HO.out.alloc _) (by simp; omega) (by omega) ?_; intro A1 k1 w1 HO1 HG1 d0 d1 g0 g1)
 have HW2 : Hid (IsW B (w1.setCell ⟨g, 0, none⟩ (.slice A1 (l.length + 1) k1)) g (l ++ [105]) n) := Lib.hid (IsW.put hBg (blk_grown HB.out (World.grownBy_alloc w _ none) (by simp)) (HO.out.alloc _) HO1.out (by rw [List.length_append]; rfl) HG1.out)
 have HK2 : Hid (WK B g w (w1.setCell ⟨g, 0, none⟩ (.slice A1 (l.length + 1) k1))) := Lib.hid ((((WK.refl B g w).alloc hBw _).grown (by simp; omega) (HO.out.alloc _) HG1.out).setW hBg _ _)
 have HD2 : Hid ((w1.setCell ⟨g, 0, none⟩ (.slice A1 (l.length + 1) k1)).heap[w.heap.size]? = some (.cells Lib.zeros24 83 (0, 0))) := Lib.hid (blk_far (blk_grown (heap_alloc_new w (.cells Lib.zeros24 83)) HG1.out (own_ne (HO.out.alloc _) (heap_alloc_new w (.cells Lib.zeros24 83)) (by decide))) (by show w.heap.size ≠ g; omega) _)
 generalize w1.setCell ⟨g, 0, none⟩ (.slice A1 (l.length + 1) k1) = W2 at HW2 HK2 HD2 ⊢
 have hl2 : (l ++ [(105 : Int)]).length ≤ l.length + 1 := by simp
 clear HO1 HG1 d0 d1 g0 g1 c0 c1 f0 f1 HB HO
 obtain ⟨D, hD⟩ : ∃ D, D = w.heap.size := ⟨_, rfl⟩
 rw [← hD] at HD2 hgl ⊢
 have hgD : g ≠ D := by omega
 obtain ⟨l2, hl2e⟩ : ∃ l2, l ++ [(105 : Int)] = l2 := ⟨_, rfl⟩
 rw [hl2e] at HW2 hl2
 have HL2 := Lib.hid hl2e
 clear hl2e
 have HDW := Lib.hid hD
 clear hD
 obtain ⟨A2, cp2, e0, e1, q0, q1, hb2, ho2⟩ := (HW2.out).open_
 have HB2 := Lib.hid hb2
 have HO2 := Lib.hid ho2
 clear hb2 ho2
 have hgD' : some g ≠ some D := by simpa using hgD
 have HC := Lib.hid (AppendInt_arr D i hi0 hi1 W2.drew Lib.zeros24 HD2.out rfl (fun h => (HT.out h) _ HK2.out.1.drew))
 have HKP : Hid (∀ w3, AtHead D (Lib.itoa i) W2.drew w3 → w3.heap[g]? = some (.cells #[.slice A2 l2.length cp2, .int .i64 n] 57 (0, 0))) := Lib.hid (fun w3 HA => (HA.2.block g (blk_lt HB2.out) hgD').trans HB2.out)
 have HKO : Hid (∀ w3, AtHead D (Lib.itoa i) W2.drew w3 → w3.ownsRow B 5 1 (.slice A2 l2.length cp2) l2.length (nums .u8 l2) ∧ (∀ j u, (Lib.byteCells (Lib.itoa i))[j]? = some u → w3.cell? ((⟨D, 0, none⟩ : Addr).add j) = some u) ∧ B ≤ w3.heap.size) := Lib.hid (fun w3 HA => ⟨(HO2.out).kept (w' := w3) (row := some D) ⟨HA.2.os, HA.2.tape, HA.2.output, HA.2.size, HA.2.block⟩ (.inr (Ne.symm (own_ne HO2.out HD2.out (by decide)))), fun j u hj => by rw [Lib.add_plain, Nat.zero_add]; exact HA.1 j u hj, by have h1 := HA.2.size; have h2 := HK2.out.1.size; have h3 : W2.drew.heap.size = W2.heap.size := rfl; omega⟩)
 have hbc : (Lib.byteCells (Lib.itoa i)).length = (Lib.itoa i).length * 1 := by rw [Lib.byteCells_length, Nat.mul_one]
 have HBC := Lib.hid hbc
 have HB1 : Hid (∀ u ∈ Lib.byteCells (Lib.itoa i), u.oneCell' = true) := Lib.hid (by intro u' hu'; simp only [Lib.byteCells, List.mem_map] at hu'; obtain ⟨b, _, rfl⟩ := hu'; rfl)
 clear hbc
 have hm1 : l2.length + (Lib.itoa i).length ≤ maxLen := by unfold maxLen; omega
 have HM1 := Lib.hid hm1
 clear hm1
 have HM2 : Hid ((l2.length + (Lib.itoa i).length) * 1 ≤ 140737488355328) := Lib.hid (by omega)
 refine start_ (n := 12) (S := fun w' => w'.cell? ⟨g, 0, none⟩ = some (.slice A2 l2.length cp2)) (ds := [11]) #[false, false, false, false, false, false, false, false, false, false, false, false] (by kernel_rfl) rfl rfl (e0) (fun hHeld => ?_)
 refine pure_ (i := 0) (N := some 14) (v := ?_) (a' := ?_) #[true, false, false, false, false, false, false, false, false, false, false, false] rfl rfl (by kernel_rfl) (fun _ _ _ h => h) (Or.inl ⟨by rfl, ?_⟩) ?_ ?_
 rotate_left
 ·intro w'
  go_simp
  with_reducible rfl
 rotate_left
 ·simp only [Act.put, sA_, sB_, sC_, i64_w, i32_w]
  rfl
 refine pure_ (i := 1) (N := some 15) (v := ?_) (a' := ?_) #[true, true, false, false, false, false, false, false, false, false, false, false] rfl rfl (by kernel_rfl) (fun _ _ _ h => h) (Or.inl ⟨by rfl, ?_⟩) ?_ ?_
 rotate_left
 ·intro w'
  go_simp
  with_reducible rfl
 rotate_left
 ·simp only [Act.put, sA_, sB_, sC_, i64_w, i32_w]
  rfl
 refine pure_ (i := 2) (N := some 16) (v := ?_) (a' := ?_) #[true, true, true, false, false, false, false, false, false, false, false, false] rfl rfl (by kernel_rfl) (fun _ _ _ h => h) (Or.inl ⟨by rfl, ?_⟩) ?_ ?_
 rotate_left
 ·intro w'
  go_simp
  with_reducible rfl
 rotate_left
 ·simp only [Act.put, sA_, sB_, sC_, i64_w, i32_w]
  rfl
 refine pure_ (i := 3) (N := some 17) (v := ?_) (a' := ?_) #[true, true, true, true, false, false, false, false, false, false, false, false] rfl rfl (by kernel_rfl) (fun _ _ _ h => h) (Or.inl ⟨by rfl, ?_⟩) ?_ ?_
 rotate_left
 ·intro w'
  go_simp
  with_reducible rfl
 rotate_left
 ·simp only [Act.put, sA_, sB_, sC_, i64_w, i32_w]
  rfl
 refine pure_ (i := 5) (N := some 19) (v := ?_) (a' := ?_) #[true, true, true, true, false, true, false, false, false, false, false, false] rfl rfl (by kernel_rfl) (fun _ _ _ h => h) (Or.inl ⟨by rfl, ?_⟩) ?_ ?_
 rotate_left
 ·intro w'
  go_simp
  with_reducible rfl
 rotate_left
 ·simp only [Act.put, sA_, sB_, sC_, i64_w, i32_w]
  rfl
 refine pure_ (i := 6) (N := some 20) (v := ?_) (a' := ?_) #[true, true, true, true, false, true, true, false, false, false, false, false] rfl rfl (by kernel_rfl) (fun _ _ _ h => h) (Or.inl ⟨by rfl, ?_⟩) ?_ ?_
 rotate_left
 ·intro w'
  go_simp
  with_reducible rfl
 rotate_left
 ·simp only [Act.put, sA_, sB_, sC_, i64_w, i32_w]
  rfl
 refine take_ (i := 4) (N := some 18) (v := ?_) (a' := ?_) #[true, true, true, true, true, true, true, false, false, false, false, false] rfl rfl (by kernel_rfl) (fun _ _ _ h => h) (Or.inl ⟨by rfl, ?_⟩) hHeld ?_ ?_
 rotate_left
 ·intro w' s0
  go_simp
  with_reducible rfl
 rotate_left
 ·simp only [Act.put, sA_, sB_, sC_, i64_w, i32_w]
  rfl
 refine one_ (i := 7) (N := some 21) #[true, true, true, true, true, true, true, true, false, false, false, false] rfl rfl (by kernel_rfl) (by decide) (fun K hK => ?_)
 refine goes_ Tryd.func53 (by kernel_rfl) rfl #[.slice (some ⟨D, 0, none⟩) 0 24, .int .i64 i, .int .i64 10] (by rfl) rfl rfl (by simp only [List.map_toArray, List.map_cons, List.map_nil]; rfl) ?_
 with_reducible refine (HC.out).mono ?_
 rintro e w3 ⟨rfl, hA⟩
 refine ⟨_, rfl, ?_⟩
 have HA := Lib.hid hA
 clear hA
 refine hK.out _ _ ((blk_cell (HKP.out _ HA.out) 0).trans rfl) (fun hHeld => ?_)
 clear hK K
 refine norm_ (a' := ?_) ?_ ?_
 rotate_left
 ·show Act.put _ (some 21) _ = _
  simp only [Act.put, sA_, sB_, sC_, i64_w, i32_w]
  rfl
 refine one_ (i := 8) (N := some 22) #[true, true, true, true, true, true, true, true, true, false, false, false] rfl rfl (by kernel_rfl) (by decide) (fun K hK => ?_)
 refine step_app B (.tmp 18) (.tmp 21) 22 5 1 (by rfl) _ rfl (by rfl) Tryd.underlying22 info5 (by decide) (.slice A2 l2.length cp2) l2.length (nums .u8 l2) (by rfl) (HKO.out _ HA.out).1 ⟨D, 0, none⟩ (Lib.itoa i).length 24 (Lib.byteCells (Lib.itoa i)) (by rfl) HBC.out (HKO.out _ HA.out).2.1 HB1.out HM1.out HM2.out (HKO.out _ HA.out).2.2 ?_
 intro A4 k4 w4 ho4 hg4
 have hb4 := blk_grown (HKP.out _ HA.out) hg4 (own_ne (HKO.out _ HA.out).1 (HKP.out _ HA.out) (by decide))
 have e4 : w4.cell? ⟨g, 0, none⟩ = some (.slice A2 l2.length cp2) := (blk_cell hb4 0).trans rfl
 have q4 : w4.frozen? ⟨g, 0, none⟩ = false := blk_frozen hb4 0
 have HO4 := Lib.hid ho4
 have HG4 := Lib.hid hg4
 have HB4 := Lib.hid hb4
 clear ho4 hg4 hb4
 refine hK.out _ _ (e4) (fun hHeld => ?_)
 clear hK K
 refine norm_ (a' := ?_) ?_ ?_
 rotate_left
 ·show Act.put _ (some 22) _ = _
  simp only [Act.put, sA_, sB_, sC_, i64_w, i32_w]
  rfl
 refine pure_ (i := 9) (N := some 23) (v := ?_) (a' := ?_) #[true, true, true, true, true, true, true, true, true, true, false, false] rfl rfl (by kernel_rfl) (fun _ _ _ h => h) (Or.inl ⟨by rfl, ?_⟩) ?_ ?_
 rotate_left
 ·intro w'
  go_simp
  with_reducible rfl
 rotate_left
 ·simp only [Act.put, sA_, sB_, sC_, i64_w, i32_w]
  rfl
 refine pure_ (i := 10) (N := some 24) (v := ?_) (a' := ?_) #[true, true, true, true, true, true, true, true, true, true, true, false] rfl rfl (by kernel_rfl) (fun _ _ _ h => h) (Or.inl ⟨by rfl, ?_⟩) ?_ ?_
 rotate_left
 ·intro w'
  go_simp
  with_reducible rfl
 rotate_left
 ·simp only [Act.put, sA_, sB_, sC_, i64_w, i32_w]
  rfl
 refine last_ (i := 11) (N := none) #[true, true, true, true, true, true, true, true, true, true, true, true] rfl rfl (by kernel_rfl) (by decide) (fun K hK => ?_)
 refine skip_ (w1 := ?_) (by rfl) rfl ?_ ?_
 rotate_left
 ·go_simp
  rfl
 refine hK.out _ _ ?_
 clear hK K
 refine done_ (by kernel_rfl) ?_
 have HW5 : Hid (IsW B (w4.setCell ⟨g, 0, none⟩ (.slice A4 (l2.length + (Lib.itoa i).length) k4)) g (l2 ++ bl (Lib.itoa i)) n) := Lib.hid (IsW.put (m1 := l2.length + (Lib.itoa i).length) hBg (HKP.out _ HA.out) (HKO.out _ HA.out).1 (by have h := HO4.out; rw [← nums_bl, ← nums_append] at h; exact h) (by rw [List.length_append, bl_length]) HG4.out)
 have HK3 : Hid (WK B g w w3) := Lib.hid (WK.of_drew (HK2.out) (HA.out.2) HD2.out (by rw [HDW.out]; exact hBw) (by rw [HDW.out]; exact Nat.le_refl _))
 have HK5 : Hid (WK B g w (w4.setCell ⟨g, 0, none⟩ (.slice A4 (l2.length + (Lib.itoa i).length) k4))) := Lib.hid ((HK3.out.grown (HKO.out _ HA.out).2.2 (HKO.out _ HA.out).1 HG4.out).setW hBg _ _)
 generalize w4.setCell ⟨g, 0, none⟩ (.slice A4 (l2.length + (Lib.itoa i).length) k4) = W5 at HW5 HK5 ⊢
 have hl3 : (l2 ++ bl (Lib.itoa i)).length ≤ l.length + 25 := by rw [List.length_append, bl_length]; omega
 obtain ⟨l3, hl3e⟩ : ∃ l3, l2 ++ bl (Lib.itoa i) = l3 := ⟨_, rfl⟩
 rw [hl3e] at HW5 hl3
 have HL3 := Lib.hid hl3e
 clear hl3e hHeld e0 e1 q0 q1 e4 q4
 obtain ⟨A6, k6, c6, d6, f6, g6, hb6, ho6⟩ := (HW5.out).open_
 have HB6 := Lib.hid hb6
 have HO6 := Lib.hid ho6
 clear hb6 ho6
 have hB5 : B ≤ W5.heap.size := by have := HK5.out.1.size; omega
 go_wp2_with (at_builtin; refine put_num l3 59 W5.heap.size rfl rfl _ _ 22 5 rfl Tryd.underlying22 info5 rfl rfl HB6.out (by decide) HO6.out hB5 (by omega) ?_; intro A7 k7 w7 HO7 HG7 d7 e7 g7 h7)
 first | go_end0 | ((try simp only [Exit.inBlock, Exit.then]); refine bodyPost_ret (results_none rfl _ _ _) rfl ?_)
 refine ⟨rfl, ?_, (HK5.out.grown hB5 HO6.out HG7.out).setW hBg _ _⟩
 have hfin := IsW.put hBg HB6.out HO6.out HO7.out (by rw [List.length_append]; rfl) HG7.out
 rw [← HL3.out, ← HL2.out] at hfin ⊢
 simpa using hfin
end Go.Proofs.YtfpopmojlmpopaaDoor.H

end
