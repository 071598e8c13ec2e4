/-
  Part 4 of the proof: words about memory and rows, functions of the program as Lean functions with the contracts that its code comes to just their answers, and plain lemmas; no conditions of its own.
-/
import Derived.Test.YtfpopmojlmpopaaDoorBAp1
import Derived.Test.YtfpopmojlmpopaaDoorBAp3
section
namespace Go.Proofs.YtfpopmojlmpopaaDoor.G
open Go.RowKit Go.Proofs.YtfpopmojlmpopaaDoorW.PrintWords Go.Proofs.YtfpopmojlmpopaaDoorW.PrintLast Go.Proofs.YtfpopmojlmpopaaDoorW.PrintMore
attribute [local go_sem] max2_int min2_int max_two min_two max_three min_three max_four min_four
set_option linter.unusedVariables false
set_option linter.unusedSimpArgs false
def frame_isDisplay.f (a0 : Int) : Option (Bool) := if 1 ≤ a0 then (some (decide (a0 ≤ 16))) else (some false)
set_option maxHeartbeats 8000000 in
set_option maxRecDepth 100000 in
theorem frame_isDisplay.calls (a0 : Int) (r : Bool) (w : World) (h : frame_isDisplay.f a0 = some r) :
  Calls Tryd.prog 60 #[.int .i64 a0] w fun e w' => e = .returned (.bool r) ∧ Drawn0 w w' := by
 have H : (if 1 ≤ a0 then (some (decide (a0 ≤ 16))) else (some false)) = some r := h
 clear h
 by_cases c2 : 1 ≤ a0
 ·rw [if_pos c2] at H
  have c2b0 : decide (1 ≤ a0) = true := decide_eq_true c2
  clear c2
  obtain rfl := Option.some.inj H
  go_enter Tryd.func60, Tryd.ntmps60
  go_wp2
  go_ret
  exact ⟨by first | rfl | (simp; done) | (simp [*]; done), by repeat (first | exact Drawn0.refl _ | apply Drawn0.step)⟩
 ·rw [if_neg c2] at H
  have c2b0 : decide (1 ≤ a0) = false := decide_eq_false c2
  clear c2
  obtain rfl := Option.some.inj H
  go_enter Tryd.func60, Tryd.ntmps60
  go_wp2
  go_ret
  exact ⟨by first | rfl | (simp; done) | (simp [*]; done), by repeat (first | exact Drawn0.refl _ | apply Drawn0.step)⟩
def frame_routed.j0 : Nat → Int → Bool → Int → Int → Int → Int → Int → List ByteArray → List (S52) → Option (Bool)
 | 0, _, _, _, _, _, _, _, _, _ => none
 | k + 1, x4, x5, x312000, x312001, x312002, x312003, x312004, x312005, x312006 => if x5 = true then ((frame_isDisplay.f x312001).bind fun t312 => (if t312 = true then (if x312002 = 0 then (if (x312005.length : Int) = 0 then (some ((x312006.length : Int) == 0)) else (some false)) else (some false)) else (some false))) else (if x4 = 2 then (if x312001 = 0 then ((frame_isDisplay.f x312002).bind fun t313 => (if t313 = true then (some ((x312006.length : Int) == 0)) else (some false))) else (some false)) else (if x4 = 3 then (if x312001 = 0 then ((frame_isDisplay.f x312002).bind fun t314 => (if t314 = true then (some ((x312005.length : Int) == 0)) else (some false))) else (some false)) else (if x4 = 4 then (if x312001 = 0 then ((frame_isDisplay.f x312002).bind fun t315 => (if t315 = true then (if (x312005.length : Int) = 0 then (some ((x312006.length : Int) == 0)) else (some false)) else (some false))) else (some false)) else (some false))))
def frame_routed.f (k : Nat) (a0_0 : Int) (a0_1 : Int) (a0_2 : Int) (a0_3 : Int) (a0_4 : Int) (l0_5 : List ByteArray) (l0_6 : List (S52)) : Option (Bool) := if a0_0 = 1 then (frame_routed.j0 k a0_0 (a0_0 == 1) a0_0 a0_1 a0_2 a0_3 a0_4 l0_5 l0_6) else (frame_routed.j0 k a0_0 (a0_0 == 5) a0_0 a0_1 a0_2 a0_3 a0_4 l0_5 l0_6)
set_option maxHeartbeats 8000000 in
set_option maxRecDepth 100000 in
theorem frame_routed.calls (k : Nat) (a0_0 : Int) (a0_1 : Int) (a0_2 : Int) (a0_3 : Int) (a0_4 : Int) (A0_5 : Option Addr) (c0_5 : Nat) (l0_5 : List ByteArray) (A0_6 : Option Addr) (c0_6 : Nat) (l0_6 : List (S52)) (r : Bool) (w : World) (hr0_5 : Kd.C Kd.string w A0_5 l0_5.length l0_5) (hc0_5 : l0_5.length ≤ c0_5) (hr0_6 : Kd.C k52 w A0_6 l0_6.length l0_6) (hc0_6 : l0_6.length ≤ c0_6) (h : frame_routed.f k a0_0 a0_1 a0_2 a0_3 a0_4 l0_5 l0_6 = some r) :
  Calls Tryd.prog 52 #[.agg #[.int .i64 a0_0, .int .i64 a0_1, .int .i64 a0_2, .int .i64 a0_3, .int .i64 a0_4, .slice A0_5 l0_5.length c0_5, .slice A0_6 l0_6.length c0_6]] w fun e w' => e = .returned (.bool r) ∧ Below w.heap.size w w' := by
 have hu31 := Tryd.underlying31
 have HR0_5 := Aside0.mk hr0_5
 have HC0_5 := Aside0.mk hc0_5
 clear hr0_5 hc0_5
 have HR0_6 := Aside0.mk hr0_6
 have HC0_6 := Aside0.mk hc0_6
 clear hr0_6 hc0_6
 have HB := Aside0.mk (Below.refl w.heap.size w)
 have H : (if a0_0 = 1 then (frame_routed.j0 k a0_0 (a0_0 == 1) a0_0 a0_1 a0_2 a0_3 a0_4 l0_5 l0_6) else (frame_routed.j0 k a0_0 (a0_0 == 5) a0_0 a0_1 a0_2 a0_3 a0_4 l0_5 l0_6)) = some r := h
 clear h
 have HC2 := Aside0.mk H
 clear H
 go_enter Tryd.func52, Tryd.ntmps52
 go_upto_if 5 with (first | ((with_reducible refine gate_dst (N := 1) rfl ?_); (try (refine gate_guard (by rfl) ?_; dsimp only)); refine box_event ?hg (N := 1) ?hd (cs := #[.int .i64 a0_0, .int .i64 a0_1, .int .i64 a0_2, .int .i64 a0_3, .int .i64 a0_4, .slice A0_5 l0_5.length c0_5, .slice A0_6 l0_6.length c0_6]) (t := 31) ?hr ?_; (case hd => rfl); (case hg => rfl); (case hr => first | (go_simp; done) | (go_simp; rfl)); intro gb311 hg w3 hbox hb; have n0_ := Aside0.mk (below_step (by repeat (first | (with_reducible first | exact HB.out | apply below_alloc | apply pw_below_drewN | apply below_drew1) | exact HB.out)) hb); have n1_ := Aside0.mk (hbox); have n2_ := Aside0.mk ((by rw [hg]; exact (below_size (by repeat (first | (with_reducible first | exact HB.out | apply below_alloc | apply pw_below_drewN | apply below_drew1) | exact HB.out))) : w.heap.size ≤ gb311)); have n3_ := Aside0.mk ((by rw [hg]; exact (below_size (by repeat (first | (with_reducible first | exact HB.out | apply below_alloc | apply pw_below_drewN | apply below_drew1) | exact HB.out))) : w.heap.size ≤ gb311)); clear HB; have HB := n0_; have BK311 := n1_; have GW311 := n2_; have GE311 := n3_; clear n0_ n1_ n2_ n3_; clear hb hbox hg; have hcz4_0 : w3.cell? ⟨gb311, 0, none⟩ = some (.int .i64 a0_0) := (blk_cell BK311.out 0).trans rfl; have hcz4_1 : w3.cell? ⟨gb311, 1, none⟩ = some (.int .i64 a0_1) := (blk_cell BK311.out 1).trans rfl; have hcz4_2 : w3.cell? ⟨gb311, 2, none⟩ = some (.int .i64 a0_2) := (blk_cell BK311.out 2).trans rfl; have hcz4_3 : w3.cell? ⟨gb311, 3, none⟩ = some (.int .i64 a0_3) := (blk_cell BK311.out 3).trans rfl; have hcz4_4 : w3.cell? ⟨gb311, 4, none⟩ = some (.int .i64 a0_4) := (blk_cell BK311.out 4).trans rfl; have hcz4_5 : w3.cell? ⟨gb311, 5, none⟩ = some (.slice A0_5 l0_5.length c0_5) := (blk_cell BK311.out 5).trans rfl; have hcz4_6 : w3.cell? ⟨gb311, 6, none⟩ = some (.slice A0_6 l0_6.length c0_6) := (blk_cell BK311.out 6).trans rfl; have hfz4_0 := blk_frozen BK311.out 0; have hfz4_1 := blk_frozen BK311.out 1; have hfz4_2 := blk_frozen BK311.out 2; have hfz4_3 := blk_frozen BK311.out 3; have hfz4_4 := blk_frozen BK311.out 4; have hfz4_5 := blk_frozen BK311.out 5; have hfz4_6 := blk_frozen BK311.out 6))
 (try simp only [Act.put, sA_, sB_, sC_])
 go_cut [5] (fun v5 wc => ∃ (kq : Nat) (x5_1 : Bool), v5 = .bool x5_1 ∧ Aside0 (frame_routed.j0 kq a0_0 x5_1 a0_0 a0_1 a0_2 a0_3 a0_4 l0_5 l0_6 = some r) ∧ Aside0 (kq ≤ k) ∧ Aside0 (wc.heap[gb311]? = some (.cells #[.int .i64 a0_0, .int .i64 a0_1, .int .i64 a0_2, .int .i64 a0_3, .int .i64 a0_4, (.slice A0_5 l0_5.length c0_5), (.slice A0_6 l0_6.length c0_6)] 31 (0, 0))) ∧ Aside0 (Below w.heap.size w wc))
 case first =>
  have H := HC2.out
  clear HC2
  by_cases c5 : a0_0 = 1
  ·rw [if_pos c5] at H
   have c5b0 : (a0_0 == 1) = true := beq_iff_eq.mpr c5
   have c5b1 : (a0_0 != 1) = false := bne_eq_false_iff_eq.mpr c5
   clear c5
   (first | rw [c5b0] | (simp only [i64_w, i32_w]; rw [c5b0]) | skip)
   have H' := Aside0.mk H
   clear H
   go_wp2
   go_meet
   case rel => exact ⟨_, ((a0_0 == 1)), (by first | rfl | (simp; done) | (simp [*]; done)), H', ⟨by first | omega | exact Nat.le_refl _⟩, ⟨by (with_reducible repeat (first | refine blk_drewN ?_ _ | refine blk_drew ?_ | refine blk_alloc ?_ _)); exact BK311.out⟩, ⟨by repeat (first | (with_reducible first | exact HB.out | apply below_alloc | apply pw_below_drewN | apply below_drew1 | refine below_set ?_ GE311.out) | exact HB.out)⟩⟩
  ·rw [if_neg c5] at H
   have c5b0 : (a0_0 == 1) = false := beq_eq_false_iff_ne.mpr c5
   have c5b1 : (a0_0 != 1) = true := bne_iff_ne.mpr c5
   (first | rw [c5b0] | (simp only [i64_w, i32_w]; rw [c5b0]) | skip)
   have H' := Aside0.mk H
   clear H
   go_wp2
   go_meet
   case rel => exact ⟨_, ((a0_0 == 5)), (by first | rfl | (simp; done) | (simp [*]; done)), H', ⟨by first | omega | exact Nat.le_refl _⟩, ⟨by (with_reducible repeat (first | refine blk_drewN ?_ _ | refine blk_drew ?_ | refine blk_alloc ?_ _)); exact BK311.out⟩, ⟨by repeat (first | (with_reducible first | exact HB.out | apply below_alloc | apply pw_below_drewN | apply below_drew1 | refine below_set ?_ GE311.out) | exact HB.out)⟩⟩
 case rest =>
  clear HC2
  try clear p2
  try clear c5
  try clear c5b0
  try clear c5b1
  try clear hcz4_0
  try clear hcz4_1
  try clear hcz4_2
  try clear hcz4_3
  try clear hcz4_4
  try clear hcz4_5
  try clear hcz4_6
  try clear hfz4_0
  try clear hfz4_1
  try clear hfz4_2
  try clear hfz4_3
  try clear hfz4_4
  try clear hfz4_5
  try clear hfz4_6
  obtain ⟨kq, x5_1, rfl, HA, HJ1, BK311, HB⟩ := hcut
  cases kq with
  | zero => exact absurd HA.out (by simp [frame_routed.j0])
  | succ kj1 =>
   have H := HA.out
   clear HA
   simp only [frame_routed.j0] at H
   by_cases c6 : x5_1 = true
   ·subst c6
    have H1 : ((frame_isDisplay.f a0_1).bind fun t312 => (if t312 = true then (if a0_2 = 0 then (if (l0_5.length : Int) = 0 then (some ((l0_6.length : Int) == 0)) else (some false)) else (some false)) else (some false))) = some r := by rw [if_pos rfl] at H; exact H
    clear H
    have H := H1
    clear H1
    replace H := Option.bind_eq_some_iff.mp H
    obtain ⟨t312, A70, H⟩ := H
    replace H : (if t312 = true then (if a0_2 = 0 then (if (l0_5.length : Int) = 0 then (some ((l0_6.length : Int) == 0)) else (some false)) else (some false)) else (some false)) = some r := H
    have A7 := Aside0.mk A70
    clear A70
    by_cases c8 : t312 = true
    ·subst c8
     have H1 : (if a0_2 = 0 then (if (l0_5.length : Int) = 0 then (some ((l0_6.length : Int) == 0)) else (some false)) else (some false)) = some r := by rw [if_pos rfl] at H; exact H
     clear H
     have H := H1
     clear H1
     by_cases c9 : a0_2 = 0
     ·rw [if_pos c9] at H
      have c9b0 : (a0_2 == 0) = true := beq_iff_eq.mpr c9
      have c9b1 : (a0_2 != 0) = false := bne_eq_false_iff_eq.mpr c9
      clear c9
      by_cases c10 : (l0_5.length : Int) = 0
      ·rw [if_pos c10] at H
       have c10b0 : ((l0_5.length : Int) == 0) = true := beq_iff_eq.mpr c10
       have c10b1 : ((l0_5.length : Int) != 0) = false := bne_eq_false_iff_eq.mpr c10
       clear c10
       obtain rfl := Option.some.inj H
       have hcz11_0 : wc.cell? ⟨gb311, 0, none⟩ = some (.int .i64 a0_0) := (blk_cell BK311.out 0).trans rfl
       have hcz11_1 : wc.cell? ⟨gb311, 1, none⟩ = some (.int .i64 a0_1) := (blk_cell BK311.out 1).trans rfl
       have hcz11_2 : wc.cell? ⟨gb311, 2, none⟩ = some (.int .i64 a0_2) := (blk_cell BK311.out 2).trans rfl
       have hcz11_3 : wc.cell? ⟨gb311, 3, none⟩ = some (.int .i64 a0_3) := (blk_cell BK311.out 3).trans rfl
       have hcz11_4 : wc.cell? ⟨gb311, 4, none⟩ = some (.int .i64 a0_4) := (blk_cell BK311.out 4).trans rfl
       have hcz11_5 : wc.cell? ⟨gb311, 5, none⟩ = some (.slice A0_5 l0_5.length c0_5) := (blk_cell BK311.out 5).trans rfl
       have hcz11_6 : wc.cell? ⟨gb311, 6, none⟩ = some (.slice A0_6 l0_6.length c0_6) := (blk_cell BK311.out 6).trans rfl
       have hfz11_0 := blk_frozen BK311.out 0
       have hfz11_1 := blk_frozen BK311.out 1
       have hfz11_2 := blk_frozen BK311.out 2
       have hfz11_3 := blk_frozen BK311.out 3
       have hfz11_4 := blk_frozen BK311.out 4
       have hfz11_5 := blk_frozen BK311.out 5
       have hfz11_6 := blk_frozen BK311.out 6
       go_wp2_with (first | ((with_reducible refine gate_callee (f := 60) rfl ?_); refine goesL_ (some 10) rfl rfl Tryd.func60 (by kernel_rfl) rfl #[.int .i64 a0_1] rfl (by (try simp only [List.map_toArray, List.map_cons, List.map_nil]); first | done | rfl | (simp only [List.length_drop, List.length_take]; rfl)) ?_; (with_reducible refine (frame_isDisplay.calls a0_1 true _ A7.out).mono ?_); rintro e w' ⟨rfl, ⟨nd, rfl⟩⟩; refine ⟨_, rfl, ?_⟩))
       go_ret
       exact ⟨by first | rfl | (simp [errW_none, errW_some] <;> rfl) | (simp [*, errW_none, errW_some] <;> rfl), by repeat (first | (with_reducible first | exact HB.out | apply below_alloc | apply pw_below_drewN | apply below_drew1 | refine below_set ?_ GE311.out) | exact HB.out)⟩
      ·rw [if_neg c10] at H
       have c10b0 : ((l0_5.length : Int) == 0) = false := beq_eq_false_iff_ne.mpr c10
       have c10b1 : ((l0_5.length : Int) != 0) = true := bne_iff_ne.mpr c10
       have c10b2 : ¬ (l0_5 = []) := fun h_ => c10 (by rw [h_]; rfl)
       obtain rfl := Option.some.inj H
       have hcz12_0 : wc.cell? ⟨gb311, 0, none⟩ = some (.int .i64 a0_0) := (blk_cell BK311.out 0).trans rfl
       have hcz12_1 : wc.cell? ⟨gb311, 1, none⟩ = some (.int .i64 a0_1) := (blk_cell BK311.out 1).trans rfl
       have hcz12_2 : wc.cell? ⟨gb311, 2, none⟩ = some (.int .i64 a0_2) := (blk_cell BK311.out 2).trans rfl
       have hcz12_3 : wc.cell? ⟨gb311, 3, none⟩ = some (.int .i64 a0_3) := (blk_cell BK311.out 3).trans rfl
       have hcz12_4 : wc.cell? ⟨gb311, 4, none⟩ = some (.int .i64 a0_4) := (blk_cell BK311.out 4).trans rfl
       have hcz12_5 : wc.cell? ⟨gb311, 5, none⟩ = some (.slice A0_5 l0_5.length c0_5) := (blk_cell BK311.out 5).trans rfl
       have hcz12_6 : wc.cell? ⟨gb311, 6, none⟩ = some (.slice A0_6 l0_6.length c0_6) := (blk_cell BK311.out 6).trans rfl
       have hfz12_0 := blk_frozen BK311.out 0
       have hfz12_1 := blk_frozen BK311.out 1
       have hfz12_2 := blk_frozen BK311.out 2
       have hfz12_3 := blk_frozen BK311.out 3
       have hfz12_4 := blk_frozen BK311.out 4
       have hfz12_5 := blk_frozen BK311.out 5
       have hfz12_6 := blk_frozen BK311.out 6
       go_wp2_with (first | ((with_reducible refine gate_callee (f := 60) rfl ?_); refine goesL_ (some 10) rfl rfl Tryd.func60 (by kernel_rfl) rfl #[.int .i64 a0_1] rfl (by (try simp only [List.map_toArray, List.map_cons, List.map_nil]); first | done | rfl | (simp only [List.length_drop, List.length_take]; rfl)) ?_; (with_reducible refine (frame_isDisplay.calls a0_1 true _ A7.out).mono ?_); rintro e w' ⟨rfl, ⟨nd, rfl⟩⟩; refine ⟨_, rfl, ?_⟩))
       go_ret
       exact ⟨by first | rfl | (simp [errW_none, errW_some] <;> rfl) | (simp [*, errW_none, errW_some] <;> rfl), by repeat (first | (with_reducible first | exact HB.out | apply below_alloc | apply pw_below_drewN | apply below_drew1 | refine below_set ?_ GE311.out) | exact HB.out)⟩
     ·rw [if_neg c9] at H
      have c9b0 : (a0_2 == 0) = false := beq_eq_false_iff_ne.mpr c9
      have c9b1 : (a0_2 != 0) = true := bne_iff_ne.mpr c9
      obtain rfl := Option.some.inj H
      have hcz13_0 : wc.cell? ⟨gb311, 0, none⟩ = some (.int .i64 a0_0) := (blk_cell BK311.out 0).trans rfl
      have hcz13_1 : wc.cell? ⟨gb311, 1, none⟩ = some (.int .i64 a0_1) := (blk_cell BK311.out 1).trans rfl
      have hcz13_2 : wc.cell? ⟨gb311, 2, none⟩ = some (.int .i64 a0_2) := (blk_cell BK311.out 2).trans rfl
      have hcz13_3 : wc.cell? ⟨gb311, 3, none⟩ = some (.int .i64 a0_3) := (blk_cell BK311.out 3).trans rfl
      have hcz13_4 : wc.cell? ⟨gb311, 4, none⟩ = some (.int .i64 a0_4) := (blk_cell BK311.out 4).trans rfl
      have hcz13_5 : wc.cell? ⟨gb311, 5, none⟩ = some (.slice A0_5 l0_5.length c0_5) := (blk_cell BK311.out 5).trans rfl
      have hcz13_6 : wc.cell? ⟨gb311, 6, none⟩ = some (.slice A0_6 l0_6.length c0_6) := (blk_cell BK311.out 6).trans rfl
      have hfz13_0 := blk_frozen BK311.out 0
      have hfz13_1 := blk_frozen BK311.out 1
      have hfz13_2 := blk_frozen BK311.out 2
      have hfz13_3 := blk_frozen BK311.out 3
      have hfz13_4 := blk_frozen BK311.out 4
      have hfz13_5 := blk_frozen BK311.out 5
      have hfz13_6 := blk_frozen BK311.out 6
      go_wp2_with (first | ((with_reducible refine gate_callee (f := 60) rfl ?_); refine goesL_ (some 10) rfl rfl Tryd.func60 (by kernel_rfl) rfl #[.int .i64 a0_1] rfl (by (try simp only [List.map_toArray, List.map_cons, List.map_nil]); first | done | rfl | (simp only [List.length_drop, List.length_take]; rfl)) ?_; (with_reducible refine (frame_isDisplay.calls a0_1 true _ A7.out).mono ?_); rintro e w' ⟨rfl, ⟨nd, rfl⟩⟩; refine ⟨_, rfl, ?_⟩))
      go_ret
      exact ⟨by first | rfl | (simp [errW_none, errW_some] <;> rfl) | (simp [*, errW_none, errW_some] <;> rfl), by repeat (first | (with_reducible first | exact HB.out | apply below_alloc | apply pw_below_drewN | apply below_drew1 | refine below_set ?_ GE311.out) | exact HB.out)⟩
    ·replace c8 := Bool.eq_false_iff.mpr c8
     subst c8
     have H1 : (some false) = some r := by rw [if_neg (show ¬ (false = true) by decide)] at H; exact H
     clear H
     have H := H1
     clear H1
     obtain rfl := Option.some.inj H
     have hcz14_0 : wc.cell? ⟨gb311, 0, none⟩ = some (.int .i64 a0_0) := (blk_cell BK311.out 0).trans rfl
     have hcz14_1 : wc.cell? ⟨gb311, 1, none⟩ = some (.int .i64 a0_1) := (blk_cell BK311.out 1).trans rfl
     have hcz14_2 : wc.cell? ⟨gb311, 2, none⟩ = some (.int .i64 a0_2) := (blk_cell BK311.out 2).trans rfl
     have hcz14_3 : wc.cell? ⟨gb311, 3, none⟩ = some (.int .i64 a0_3) := (blk_cell BK311.out 3).trans rfl
     have hcz14_4 : wc.cell? ⟨gb311, 4, none⟩ = some (.int .i64 a0_4) := (blk_cell BK311.out 4).trans rfl
     have hcz14_5 : wc.cell? ⟨gb311, 5, none⟩ = some (.slice A0_5 l0_5.length c0_5) := (blk_cell BK311.out 5).trans rfl
     have hcz14_6 : wc.cell? ⟨gb311, 6, none⟩ = some (.slice A0_6 l0_6.length c0_6) := (blk_cell BK311.out 6).trans rfl
     have hfz14_0 := blk_frozen BK311.out 0
     have hfz14_1 := blk_frozen BK311.out 1
     have hfz14_2 := blk_frozen BK311.out 2
     have hfz14_3 := blk_frozen BK311.out 3
     have hfz14_4 := blk_frozen BK311.out 4
     have hfz14_5 := blk_frozen BK311.out 5
     have hfz14_6 := blk_frozen BK311.out 6
     go_wp2_with (first | ((with_reducible refine gate_callee (f := 60) rfl ?_); refine goesL_ (some 10) rfl rfl Tryd.func60 (by kernel_rfl) rfl #[.int .i64 a0_1] rfl (by (try simp only [List.map_toArray, List.map_cons, List.map_nil]); first | done | rfl | (simp only [List.length_drop, List.length_take]; rfl)) ?_; (with_reducible refine (frame_isDisplay.calls a0_1 false _ A7.out).mono ?_); rintro e w' ⟨rfl, ⟨nd, rfl⟩⟩; refine ⟨_, rfl, ?_⟩))
     go_ret
     exact ⟨by first | rfl | (simp [errW_none, errW_some] <;> rfl) | (simp [*, errW_none, errW_some] <;> rfl), by repeat (first | (with_reducible first | exact HB.out | apply below_alloc | apply pw_below_drewN | apply below_drew1 | refine below_set ?_ GE311.out) | exact HB.out)⟩
   ·replace c6 := Bool.eq_false_iff.mpr c6
    subst c6
    have H1 : (if a0_0 = 2 then (if a0_1 = 0 then ((frame_isDisplay.f a0_2).bind fun t313 => (if t313 = true then (some ((l0_6.length : Int) == 0)) else (some false))) else (some false)) else (if a0_0 = 3 then (if a0_1 = 0 then ((frame_isDisplay.f a0_2).bind fun t314 => (if t314 = true then (some ((l0_5.length : Int) == 0)) else (some false))) else (some false)) else (if a0_0 = 4 then (if a0_1 = 0 then ((frame_isDisplay.f a0_2).bind fun t315 => (if t315 = true then (if (l0_5.length : Int) = 0 then (some ((l0_6.length : Int) == 0)) else (some false)) else (some false))) else (some false)) else (some false)))) = some r := by rw [if_neg (show ¬ (false = true) by decide)] at H; exact H
    clear H
    have H := H1
    clear H1
    by_cases c15 : a0_0 = 2
    ·rw [if_pos c15] at H
     have c15b0 : (a0_0 == 2) = true := beq_iff_eq.mpr c15
     have c15b1 : (a0_0 != 2) = false := bne_eq_false_iff_eq.mpr c15
     clear c15
     by_cases c16 : a0_1 = 0
     ·rw [if_pos c16] at H
      have c16b0 : (a0_1 == 0) = true := beq_iff_eq.mpr c16
      have c16b1 : (a0_1 != 0) = false := bne_eq_false_iff_eq.mpr c16
      clear c16
      replace H := Option.bind_eq_some_iff.mp H
      obtain ⟨t313, A170, H⟩ := H
      replace H : (if t313 = true then (some ((l0_6.length : Int) == 0)) else (some false)) = some r := H
      have A17 := Aside0.mk A170
      clear A170
      by_cases c18 : t313 = true
      ·subst c18
       have H1 : (some ((l0_6.length : Int) == 0)) = some r := by rw [if_pos rfl] at H; exact H
       clear H
       have H := H1
       clear H1
       obtain rfl := Option.some.inj H
       have hcz19_0 : wc.cell? ⟨gb311, 0, none⟩ = some (.int .i64 a0_0) := (blk_cell BK311.out 0).trans rfl
       have hcz19_1 : wc.cell? ⟨gb311, 1, none⟩ = some (.int .i64 a0_1) := (blk_cell BK311.out 1).trans rfl
       have hcz19_2 : wc.cell? ⟨gb311, 2, none⟩ = some (.int .i64 a0_2) := (blk_cell BK311.out 2).trans rfl
       have hcz19_3 : wc.cell? ⟨gb311, 3, none⟩ = some (.int .i64 a0_3) := (blk_cell BK311.out 3).trans rfl
       have hcz19_4 : wc.cell? ⟨gb311, 4, none⟩ = some (.int .i64 a0_4) := (blk_cell BK311.out 4).trans rfl
       have hcz19_5 : wc.cell? ⟨gb311, 5, none⟩ = some (.slice A0_5 l0_5.length c0_5) := (blk_cell BK311.out 5).trans rfl
       have hcz19_6 : wc.cell? ⟨gb311, 6, none⟩ = some (.slice A0_6 l0_6.length c0_6) := (blk_cell BK311.out 6).trans rfl
       have hfz19_0 := blk_frozen BK311.out 0
       have hfz19_1 := blk_frozen BK311.out 1
       have hfz19_2 := blk_frozen BK311.out 2
       have hfz19_3 := blk_frozen BK311.out 3
       have hfz19_4 := blk_frozen BK311.out 4
       have hfz19_5 := blk_frozen BK311.out 5
       have hfz19_6 := blk_frozen BK311.out 6
       go_wp2_with (first | (go_at_call 60; (with_reducible refine (frame_isDisplay.calls a0_2 true _ A17.out).mono ?_); rintro e w' ⟨rfl, ⟨nd, rfl⟩⟩))
       go_ret
       exact ⟨by first | rfl | (simp [errW_none, errW_some] <;> rfl) | (simp [*, errW_none, errW_some] <;> rfl), by repeat (first | (with_reducible first | exact HB.out | apply below_alloc | apply pw_below_drewN | apply below_drew1 | refine below_set ?_ GE311.out) | exact HB.out)⟩
      ·replace c18 := Bool.eq_false_iff.mpr c18
       subst c18
       have H1 : (some false) = some r := by rw [if_neg (show ¬ (false = true) by decide)] at H; exact H
       clear H
       have H := H1
       clear H1
       obtain rfl := Option.some.inj H
       have hcz20_0 : wc.cell? ⟨gb311, 0, none⟩ = some (.int .i64 a0_0) := (blk_cell BK311.out 0).trans rfl
       have hcz20_1 : wc.cell? ⟨gb311, 1, none⟩ = some (.int .i64 a0_1) := (blk_cell BK311.out 1).trans rfl
       have hcz20_2 : wc.cell? ⟨gb311, 2, none⟩ = some (.int .i64 a0_2) := (blk_cell BK311.out 2).trans rfl
       have hcz20_3 : wc.cell? ⟨gb311, 3, none⟩ = some (.int .i64 a0_3) := (blk_cell BK311.out 3).trans rfl
       have hcz20_4 : wc.cell? ⟨gb311, 4, none⟩ = some (.int .i64 a0_4) := (blk_cell BK311.out 4).trans rfl
       have hcz20_5 : wc.cell? ⟨gb311, 5, none⟩ = some (.slice A0_5 l0_5.length c0_5) := (blk_cell BK311.out 5).trans rfl
       have hcz20_6 : wc.cell? ⟨gb311, 6, none⟩ = some (.slice A0_6 l0_6.length c0_6) := (blk_cell BK311.out 6).trans rfl
       have hfz20_0 := blk_frozen BK311.out 0
       have hfz20_1 := blk_frozen BK311.out 1
       have hfz20_2 := blk_frozen BK311.out 2
       have hfz20_3 := blk_frozen BK311.out 3
       have hfz20_4 := blk_frozen BK311.out 4
       have hfz20_5 := blk_frozen BK311.out 5
       have hfz20_6 := blk_frozen BK311.out 6
       go_wp2_with (first | (go_at_call 60; (with_reducible refine (frame_isDisplay.calls a0_2 false _ A17.out).mono ?_); rintro e w' ⟨rfl, ⟨nd, rfl⟩⟩))
       go_ret
       exact ⟨by first | rfl | (simp [errW_none, errW_some] <;> rfl) | (simp [*, errW_none, errW_some] <;> rfl), by repeat (first | (with_reducible first | exact HB.out | apply below_alloc | apply pw_below_drewN | apply below_drew1 | refine below_set ?_ GE311.out) | exact HB.out)⟩
     ·rw [if_neg c16] at H
      have c16b0 : (a0_1 == 0) = false := beq_eq_false_iff_ne.mpr c16
      have c16b1 : (a0_1 != 0) = true := bne_iff_ne.mpr c16
      obtain rfl := Option.some.inj H
      have hcz21_0 : wc.cell? ⟨gb311, 0, none⟩ = some (.int .i64 a0_0) := (blk_cell BK311.out 0).trans rfl
      have hcz21_1 : wc.cell? ⟨gb311, 1, none⟩ = some (.int .i64 a0_1) := (blk_cell BK311.out 1).trans rfl
      have hcz21_2 : wc.cell? ⟨gb311, 2, none⟩ = some (.int .i64 a0_2) := (blk_cell BK311.out 2).trans rfl
      have hcz21_3 : wc.cell? ⟨gb311, 3, none⟩ = some (.int .i64 a0_3) := (blk_cell BK311.out 3).trans rfl
      have hcz21_4 : wc.cell? ⟨gb311, 4, none⟩ = some (.int .i64 a0_4) := (blk_cell BK311.out 4).trans rfl
      have hcz21_5 : wc.cell? ⟨gb311, 5, none⟩ = some (.slice A0_5 l0_5.length c0_5) := (blk_cell BK311.out 5).trans rfl
      have hcz21_6 : wc.cell? ⟨gb311, 6, none⟩ = some (.slice A0_6 l0_6.length c0_6) := (blk_cell BK311.out 6).trans rfl
      have hfz21_0 := blk_frozen BK311.out 0
      have hfz21_1 := blk_frozen BK311.out 1
      have hfz21_2 := blk_frozen BK311.out 2
      have hfz21_3 := blk_frozen BK311.out 3
      have hfz21_4 := blk_frozen BK311.out 4
      have hfz21_5 := blk_frozen BK311.out 5
      have hfz21_6 := blk_frozen BK311.out 6
      go_wp2
      go_ret
      exact ⟨by first | rfl | (simp [errW_none, errW_some] <;> rfl) | (simp [*, errW_none, errW_some] <;> rfl), by repeat (first | (with_reducible first | exact HB.out | apply below_alloc | apply pw_below_drewN | apply below_drew1 | refine below_set ?_ GE311.out) | exact HB.out)⟩
    ·rw [if_neg c15] at H
     have c15b0 : (a0_0 == 2) = false := beq_eq_false_iff_ne.mpr c15
     have c15b1 : (a0_0 != 2) = true := bne_iff_ne.mpr c15
     by_cases c22 : a0_0 = 3
     ·rw [if_pos c22] at H
      have c22b0 : (a0_0 == 3) = true := beq_iff_eq.mpr c22
      have c22b1 : (a0_0 != 3) = false := bne_eq_false_iff_eq.mpr c22
      clear c22
      by_cases c23 : a0_1 = 0
      ·rw [if_pos c23] at H
       have c23b0 : (a0_1 == 0) = true := beq_iff_eq.mpr c23
       have c23b1 : (a0_1 != 0) = false := bne_eq_false_iff_eq.mpr c23
       clear c23
       replace H := Option.bind_eq_some_iff.mp H
       obtain ⟨t314, A240, H⟩ := H
       replace H : (if t314 = true then (some ((l0_5.length : Int) == 0)) else (some false)) = some r := H
       have A24 := Aside0.mk A240
       clear A240
       by_cases c25 : t314 = true
       ·subst c25
        have H1 : (some ((l0_5.length : Int) == 0)) = some r := by rw [if_pos rfl] at H; exact H
        clear H
        have H := H1
        clear H1
        obtain rfl := Option.some.inj H
        have hcz26_0 : wc.cell? ⟨gb311, 0, none⟩ = some (.int .i64 a0_0) := (blk_cell BK311.out 0).trans rfl
        have hcz26_1 : wc.cell? ⟨gb311, 1, none⟩ = some (.int .i64 a0_1) := (blk_cell BK311.out 1).trans rfl
        have hcz26_2 : wc.cell? ⟨gb311, 2, none⟩ = some (.int .i64 a0_2) := (blk_cell BK311.out 2).trans rfl
        have hcz26_3 : wc.cell? ⟨gb311, 3, none⟩ = some (.int .i64 a0_3) := (blk_cell BK311.out 3).trans rfl
        have hcz26_4 : wc.cell? ⟨gb311, 4, none⟩ = some (.int .i64 a0_4) := (blk_cell BK311.out 4).trans rfl
        have hcz26_5 : wc.cell? ⟨gb311, 5, none⟩ = some (.slice A0_5 l0_5.length c0_5) := (blk_cell BK311.out 5).trans rfl
        have hcz26_6 : wc.cell? ⟨gb311, 6, none⟩ = some (.slice A0_6 l0_6.length c0_6) := (blk_cell BK311.out 6).trans rfl
        have hfz26_0 := blk_frozen BK311.out 0
        have hfz26_1 := blk_frozen BK311.out 1
        have hfz26_2 := blk_frozen BK311.out 2
        have hfz26_3 := blk_frozen BK311.out 3
        have hfz26_4 := blk_frozen BK311.out 4
        have hfz26_5 := blk_frozen BK311.out 5
        have hfz26_6 := blk_frozen BK311.out 6
        go_wp2_with (first | (go_at_call 60; (with_reducible refine (frame_isDisplay.calls a0_2 true _ A24.out).mono ?_); rintro e w' ⟨rfl, ⟨nd, rfl⟩⟩))
        go_ret
        exact ⟨by first | rfl | (simp [errW_none, errW_some] <;> rfl) | (simp [*, errW_none, errW_some] <;> rfl), by repeat (first | (with_reducible first | exact HB.out | apply below_alloc | apply pw_below_drewN | apply below_drew1 | refine below_set ?_ GE311.out) | exact HB.out)⟩
       ·replace c25 := Bool.eq_false_iff.mpr c25
        subst c25
        have H1 : (some false) = some r := by rw [if_neg (show ¬ (false = true) by decide)] at H; exact H
        clear H
        have H := H1
        clear H1
        obtain rfl := Option.some.inj H
        have hcz27_0 : wc.cell? ⟨gb311, 0, none⟩ = some (.int .i64 a0_0) := (blk_cell BK311.out 0).trans rfl
        have hcz27_1 : wc.cell? ⟨gb311, 1, none⟩ = some (.int .i64 a0_1) := (blk_cell BK311.out 1).trans rfl
        have hcz27_2 : wc.cell? ⟨gb311, 2, none⟩ = some (.int .i64 a0_2) := (blk_cell BK311.out 2).trans rfl
        have hcz27_3 : wc.cell? ⟨gb311, 3, none⟩ = some (.int .i64 a0_3) := (blk_cell BK311.out 3).trans rfl
        have hcz27_4 : wc.cell? ⟨gb311, 4, none⟩ = some (.int .i64 a0_4) := (blk_cell BK311.out 4).trans rfl
        have hcz27_5 : wc.cell? ⟨gb311, 5, none⟩ = some (.slice A0_5 l0_5.length c0_5) := (blk_cell BK311.out 5).trans rfl
        have hcz27_6 : wc.cell? ⟨gb311, 6, none⟩ = some (.slice A0_6 l0_6.length c0_6) := (blk_cell BK311.out 6).trans rfl
        have hfz27_0 := blk_frozen BK311.out 0
        have hfz27_1 := blk_frozen BK311.out 1
        have hfz27_2 := blk_frozen BK311.out 2
        have hfz27_3 := blk_frozen BK311.out 3
        have hfz27_4 := blk_frozen BK311.out 4
        have hfz27_5 := blk_frozen BK311.out 5
        have hfz27_6 := blk_frozen BK311.out 6
        go_wp2_with (first | (go_at_call 60; (with_reducible refine (frame_isDisplay.calls a0_2 false _ A24.out).mono ?_); rintro e w' ⟨rfl, ⟨nd, rfl⟩⟩))
        go_ret
        exact ⟨by first | rfl | (simp [errW_none, errW_some] <;> rfl) | (simp [*, errW_none, errW_some] <;> rfl), by repeat (first | (with_reducible first | exact HB.out | apply below_alloc | apply pw_below_drewN | apply below_drew1 | refine below_set ?_ GE311.out) | exact HB.out)⟩
      ·rw [if_neg c23] at H
       have c23b0 : (a0_1 == 0) = false := beq_eq_false_iff_ne.mpr c23
       have c23b1 : (a0_1 != 0) = true := bne_iff_ne.mpr c23
       obtain rfl := Option.some.inj H
       have hcz28_0 : wc.cell? ⟨gb311, 0, none⟩ = some (.int .i64 a0_0) := (blk_cell BK311.out 0).trans rfl
       have hcz28_1 : wc.cell? ⟨gb311, 1, none⟩ = some (.int .i64 a0_1) := (blk_cell BK311.out 1).trans rfl
       have hcz28_2 : wc.cell? ⟨gb311, 2, none⟩ = some (.int .i64 a0_2) := (blk_cell BK311.out 2).trans rfl
       have hcz28_3 : wc.cell? ⟨gb311, 3, none⟩ = some (.int .i64 a0_3) := (blk_cell BK311.out 3).trans rfl
       have hcz28_4 : wc.cell? ⟨gb311, 4, none⟩ = some (.int .i64 a0_4) := (blk_cell BK311.out 4).trans rfl
       have hcz28_5 : wc.cell? ⟨gb311, 5, none⟩ = some (.slice A0_5 l0_5.length c0_5) := (blk_cell BK311.out 5).trans rfl
       have hcz28_6 : wc.cell? ⟨gb311, 6, none⟩ = some (.slice A0_6 l0_6.length c0_6) := (blk_cell BK311.out 6).trans rfl
       have hfz28_0 := blk_frozen BK311.out 0
       have hfz28_1 := blk_frozen BK311.out 1
       have hfz28_2 := blk_frozen BK311.out 2
       have hfz28_3 := blk_frozen BK311.out 3
       have hfz28_4 := blk_frozen BK311.out 4
       have hfz28_5 := blk_frozen BK311.out 5
       have hfz28_6 := blk_frozen BK311.out 6
       go_wp2
       go_ret
       exact ⟨by first | rfl | (simp [errW_none, errW_some] <;> rfl) | (simp [*, errW_none, errW_some] <;> rfl), by repeat (first | (with_reducible first | exact HB.out | apply below_alloc | apply pw_below_drewN | apply below_drew1 | refine below_set ?_ GE311.out) | exact HB.out)⟩
     ·rw [if_neg c22] at H
      have c22b0 : (a0_0 == 3) = false := beq_eq_false_iff_ne.mpr c22
      have c22b1 : (a0_0 != 3) = true := bne_iff_ne.mpr c22
      by_cases c29 : a0_0 = 4
      ·rw [if_pos c29] at H
       have c29b0 : (a0_0 == 4) = true := beq_iff_eq.mpr c29
       have c29b1 : (a0_0 != 4) = false := bne_eq_false_iff_eq.mpr c29
       clear c29
       by_cases c30 : a0_1 = 0
       ·rw [if_pos c30] at H
        have c30b0 : (a0_1 == 0) = true := beq_iff_eq.mpr c30
        have c30b1 : (a0_1 != 0) = false := bne_eq_false_iff_eq.mpr c30
        clear c30
        replace H := Option.bind_eq_some_iff.mp H
        obtain ⟨t315, A310, H⟩ := H
        replace H : (if t315 = true then (if (l0_5.length : Int) = 0 then (some ((l0_6.length : Int) == 0)) else (some false)) else (some false)) = some r := H
        have A31 := Aside0.mk A310
        clear A310
        by_cases c32 : t315 = true
        ·subst c32
         have H1 : (if (l0_5.length : Int) = 0 then (some ((l0_6.length : Int) == 0)) else (some false)) = some r := by rw [if_pos rfl] at H; exact H
         clear H
         have H := H1
         clear H1
         by_cases c33 : (l0_5.length : Int) = 0
         ·rw [if_pos c33] at H
          have c33b0 : ((l0_5.length : Int) == 0) = true := beq_iff_eq.mpr c33
          have c33b1 : ((l0_5.length : Int) != 0) = false := bne_eq_false_iff_eq.mpr c33
          clear c33
          obtain rfl := Option.some.inj H
          have hcz34_0 : wc.cell? ⟨gb311, 0, none⟩ = some (.int .i64 a0_0) := (blk_cell BK311.out 0).trans rfl
          have hcz34_1 : wc.cell? ⟨gb311, 1, none⟩ = some (.int .i64 a0_1) := (blk_cell BK311.out 1).trans rfl
          have hcz34_2 : wc.cell? ⟨gb311, 2, none⟩ = some (.int .i64 a0_2) := (blk_cell BK311.out 2).trans rfl
          have hcz34_3 : wc.cell? ⟨gb311, 3, none⟩ = some (.int .i64 a0_3) := (blk_cell BK311.out 3).trans rfl
          have hcz34_4 : wc.cell? ⟨gb311, 4, none⟩ = some (.int .i64 a0_4) := (blk_cell BK311.out 4).trans rfl
          have hcz34_5 : wc.cell? ⟨gb311, 5, none⟩ = some (.slice A0_5 l0_5.length c0_5) := (blk_cell BK311.out 5).trans rfl
          have hcz34_6 : wc.cell? ⟨gb311, 6, none⟩ = some (.slice A0_6 l0_6.length c0_6) := (blk_cell BK311.out 6).trans rfl
          have hfz34_0 := blk_frozen BK311.out 0
          have hfz34_1 := blk_frozen BK311.out 1
          have hfz34_2 := blk_frozen BK311.out 2
          have hfz34_3 := blk_frozen BK311.out 3
          have hfz34_4 := blk_frozen BK311.out 4
          have hfz34_5 := blk_frozen BK311.out 5
          have hfz34_6 := blk_frozen BK311.out 6
          go_wp2_with (first | (go_at_call 60; (with_reducible refine (frame_isDisplay.calls a0_2 true _ A31.out).mono ?_); rintro e w' ⟨rfl, ⟨nd, rfl⟩⟩))
          go_ret
          exact ⟨by first | rfl | (simp [errW_none, errW_some] <;> rfl) | (simp [*, errW_none, errW_some] <;> rfl), by repeat (first | (with_reducible first | exact HB.out | apply below_alloc | apply pw_below_drewN | apply below_drew1 | refine below_set ?_ GE311.out) | exact HB.out)⟩
         ·rw [if_neg c33] at H
          have c33b0 : ((l0_5.length : Int) == 0) = false := beq_eq_false_iff_ne.mpr c33
          have c33b1 : ((l0_5.length : Int) != 0) = true := bne_iff_ne.mpr c33
          have c33b2 : ¬ (l0_5 = []) := fun h_ => c33 (by rw [h_]; rfl)
          obtain rfl := Option.some.inj H
          have hcz35_0 : wc.cell? ⟨gb311, 0, none⟩ = some (.int .i64 a0_0) := (blk_cell BK311.out 0).trans rfl
          have hcz35_1 : wc.cell? ⟨gb311, 1, none⟩ = some (.int .i64 a0_1) := (blk_cell BK311.out 1).trans rfl
          have hcz35_2 : wc.cell? ⟨gb311, 2, none⟩ = some (.int .i64 a0_2) := (blk_cell BK311.out 2).trans rfl
          have hcz35_3 : wc.cell? ⟨gb311, 3, none⟩ = some (.int .i64 a0_3) := (blk_cell BK311.out 3).trans rfl
          have hcz35_4 : wc.cell? ⟨gb311, 4, none⟩ = some (.int .i64 a0_4) := (blk_cell BK311.out 4).trans rfl
          have hcz35_5 : wc.cell? ⟨gb311, 5, none⟩ = some (.slice A0_5 l0_5.length c0_5) := (blk_cell BK311.out 5).trans rfl
          have hcz35_6 : wc.cell? ⟨gb311, 6, none⟩ = some (.slice A0_6 l0_6.length c0_6) := (blk_cell BK311.out 6).trans rfl
          have hfz35_0 := blk_frozen BK311.out 0
          have hfz35_1 := blk_frozen BK311.out 1
          have hfz35_2 := blk_frozen BK311.out 2
          have hfz35_3 := blk_frozen BK311.out 3
          have hfz35_4 := blk_frozen BK311.out 4
          have hfz35_5 := blk_frozen BK311.out 5
          have hfz35_6 := blk_frozen BK311.out 6
          go_wp2_with (first | (go_at_call 60; (with_reducible refine (frame_isDisplay.calls a0_2 true _ A31.out).mono ?_); rintro e w' ⟨rfl, ⟨nd, rfl⟩⟩))
          go_ret
          exact ⟨by first | rfl | (simp [errW_none, errW_some] <;> rfl) | (simp [*, errW_none, errW_some] <;> rfl), by repeat (first | (with_reducible first | exact HB.out | apply below_alloc | apply pw_below_drewN | apply below_drew1 | refine below_set ?_ GE311.out) | exact HB.out)⟩
        ·replace c32 := Bool.eq_false_iff.mpr c32
         subst c32
         have H1 : (some false) = some r := by rw [if_neg (show ¬ (false = true) by decide)] at H; exact H
         clear H
         have H := H1
         clear H1
         obtain rfl := Option.some.inj H
         have hcz36_0 : wc.cell? ⟨gb311, 0, none⟩ = some (.int .i64 a0_0) := (blk_cell BK311.out 0).trans rfl
         have hcz36_1 : wc.cell? ⟨gb311, 1, none⟩ = some (.int .i64 a0_1) := (blk_cell BK311.out 1).trans rfl
         have hcz36_2 : wc.cell? ⟨gb311, 2, none⟩ = some (.int .i64 a0_2) := (blk_cell BK311.out 2).trans rfl
         have hcz36_3 : wc.cell? ⟨gb311, 3, none⟩ = some (.int .i64 a0_3) := (blk_cell BK311.out 3).trans rfl
         have hcz36_4 : wc.cell? ⟨gb311, 4, none⟩ = some (.int .i64 a0_4) := (blk_cell BK311.out 4).trans rfl
         have hcz36_5 : wc.cell? ⟨gb311, 5, none⟩ = some (.slice A0_5 l0_5.length c0_5) := (blk_cell BK311.out 5).trans rfl
         have hcz36_6 : wc.cell? ⟨gb311, 6, none⟩ = some (.slice A0_6 l0_6.length c0_6) := (blk_cell BK311.out 6).trans rfl
         have hfz36_0 := blk_frozen BK311.out 0
         have hfz36_1 := blk_frozen BK311.out 1
         have hfz36_2 := blk_frozen BK311.out 2
         have hfz36_3 := blk_frozen BK311.out 3
         have hfz36_4 := blk_frozen BK311.out 4
         have hfz36_5 := blk_frozen BK311.out 5
         have hfz36_6 := blk_frozen BK311.out 6
         go_wp2_with (first | (go_at_call 60; (with_reducible refine (frame_isDisplay.calls a0_2 false _ A31.out).mono ?_); rintro e w' ⟨rfl, ⟨nd, rfl⟩⟩))
         go_ret
         exact ⟨by first | rfl | (simp [errW_none, errW_some] <;> rfl) | (simp [*, errW_none, errW_some] <;> rfl), by repeat (first | (with_reducible first | exact HB.out | apply below_alloc | apply pw_below_drewN | apply below_drew1 | refine below_set ?_ GE311.out) | exact HB.out)⟩
       ·rw [if_neg c30] at H
        have c30b0 : (a0_1 == 0) = false := beq_eq_false_iff_ne.mpr c30
        have c30b1 : (a0_1 != 0) = true := bne_iff_ne.mpr c30
        obtain rfl := Option.some.inj H
        have hcz37_0 : wc.cell? ⟨gb311, 0, none⟩ = some (.int .i64 a0_0) := (blk_cell BK311.out 0).trans rfl
        have hcz37_1 : wc.cell? ⟨gb311, 1, none⟩ = some (.int .i64 a0_1) := (blk_cell BK311.out 1).trans rfl
        have hcz37_2 : wc.cell? ⟨gb311, 2, none⟩ = some (.int .i64 a0_2) := (blk_cell BK311.out 2).trans rfl
        have hcz37_3 : wc.cell? ⟨gb311, 3, none⟩ = some (.int .i64 a0_3) := (blk_cell BK311.out 3).trans rfl
        have hcz37_4 : wc.cell? ⟨gb311, 4, none⟩ = some (.int .i64 a0_4) := (blk_cell BK311.out 4).trans rfl
        have hcz37_5 : wc.cell? ⟨gb311, 5, none⟩ = some (.slice A0_5 l0_5.length c0_5) := (blk_cell BK311.out 5).trans rfl
        have hcz37_6 : wc.cell? ⟨gb311, 6, none⟩ = some (.slice A0_6 l0_6.length c0_6) := (blk_cell BK311.out 6).trans rfl
        have hfz37_0 := blk_frozen BK311.out 0
        have hfz37_1 := blk_frozen BK311.out 1
        have hfz37_2 := blk_frozen BK311.out 2
        have hfz37_3 := blk_frozen BK311.out 3
        have hfz37_4 := blk_frozen BK311.out 4
        have hfz37_5 := blk_frozen BK311.out 5
        have hfz37_6 := blk_frozen BK311.out 6
        go_wp2
        go_ret
        exact ⟨by first | rfl | (simp [errW_none, errW_some] <;> rfl) | (simp [*, errW_none, errW_some] <;> rfl), by repeat (first | (with_reducible first | exact HB.out | apply below_alloc | apply pw_below_drewN | apply below_drew1 | refine below_set ?_ GE311.out) | exact HB.out)⟩
      ·rw [if_neg c29] at H
       have c29b0 : (a0_0 == 4) = false := beq_eq_false_iff_ne.mpr c29
       have c29b1 : (a0_0 != 4) = true := bne_iff_ne.mpr c29
       obtain rfl := Option.some.inj H
       go_wp2
       go_ret
       exact ⟨by first | rfl | (simp [errW_none, errW_some] <;> rfl) | (simp [*, errW_none, errW_some] <;> rfl), by repeat (first | (with_reducible first | exact HB.out | apply below_alloc | apply pw_below_drewN | apply below_drew1 | refine below_set ?_ GE311.out) | exact HB.out)⟩
end Go.Proofs.YtfpopmojlmpopaaDoor.G

end
section
namespace Go.Proofs.YtfpopmojlmpopaaDoor.G
open Go.RowKit Go.Proofs.YtfpopmojlmpopaaDoorW.PrintWords Go.Proofs.YtfpopmojlmpopaaDoorW.PrintLast Go.Proofs.YtfpopmojlmpopaaDoorW.PrintMore
attribute [local go_sem] max2_int min2_int max_two min_two max_three min_three max_four min_four
set_option linter.unusedVariables false
set_option linter.unusedSimpArgs false
def frame_Check.j0 : Nat → Bool → Int → Int → Int → Int → Int → List ByteArray → List (S52) → Option (Int)
 | 0, _, _, _, _, _, _, _, _ => none
 | k + 1, x34, x317000, x317001, x317002, x317003, x317004, x317005, x317006 => if x34 = true then (some 5) else ((frame_lineError.f k x317005).bind fun t318 => (if t318 = 0 then ((frame_possible.f k x317006).bind fun t319 => (if t319 = true then (some 0) else (some 1))) else (some t318)))
def frame_Check.f (k : Nat) (a0_0 : Int) (a0_1 : Int) (a0_2 : Int) (a0_3 : Int) (a0_4 : Int) (l0_5 : List ByteArray) (l0_6 : List (S52)) : Option (Int) := (frame_routed.f k a0_0 a0_1 a0_2 a0_3 a0_4 l0_5 l0_6).bind fun t317 => (if t317 = true then (if a0_3 < 0 then (frame_Check.j0 k true a0_0 a0_1 a0_2 a0_3 a0_4 l0_5 l0_6) else (if a0_3 > 1000000000 then (frame_Check.j0 k true a0_0 a0_1 a0_2 a0_3 a0_4 l0_5 l0_6) else (if a0_4 < 0 then (frame_Check.j0 k true a0_0 a0_1 a0_2 a0_3 a0_4 l0_5 l0_6) else (if a0_4 > 1000000000 then (frame_Check.j0 k true a0_0 a0_1 a0_2 a0_3 a0_4 l0_5 l0_6) else (if a0_0 = 3 then (frame_Check.j0 k (a0_4 == 0) a0_0 a0_1 a0_2 a0_3 a0_4 l0_5 l0_6) else (frame_Check.j0 k false a0_0 a0_1 a0_2 a0_3 a0_4 l0_5 l0_6)))))) else (some 1))
set_option maxHeartbeats 8000000 in
set_option maxRecDepth 100000 in
theorem frame_Check.calls (k : Nat) (a0_0 : Int) (a0_1 : Int) (a0_2 : Int) (a0_3 : Int) (a0_4 : Int) (A0_5 : Option Addr) (c0_5 : Nat) (l0_5 : List ByteArray) (A0_6 : Option Addr) (c0_6 : Nat) (l0_6 : List (S52)) (r : Int) (w : World) (hr0_5 : Kd.C Kd.string w A0_5 l0_5.length l0_5) (hc0_5 : l0_5.length ≤ c0_5) (hr0_6 : Kd.C k52 w A0_6 l0_6.length l0_6) (hc0_6 : l0_6.length ≤ c0_6) (h : frame_Check.f k a0_0 a0_1 a0_2 a0_3 a0_4 l0_5 l0_6 = some r) :
  Calls Tryd.prog 28 #[.agg #[.int .i64 a0_0, .int .i64 a0_1, .int .i64 a0_2, .int .i64 a0_3, .int .i64 a0_4, .slice A0_5 l0_5.length c0_5, .slice A0_6 l0_6.length c0_6]] w fun e w' => e = .returned (.int .i64 r) ∧ Below w.heap.size w w' := by
 have hu31 := Tryd.underlying31
 have HR0_5 := Aside0.mk hr0_5
 have HC0_5 := Aside0.mk hc0_5
 clear hr0_5 hc0_5
 have HR0_6 := Aside0.mk hr0_6
 have HC0_6 := Aside0.mk hc0_6
 clear hr0_6 hc0_6
 have HB := Aside0.mk (Below.refl w.heap.size w)
 have H : ((frame_routed.f k a0_0 a0_1 a0_2 a0_3 a0_4 l0_5 l0_6).bind fun t317 => (if t317 = true then (if a0_3 < 0 then (frame_Check.j0 k true a0_0 a0_1 a0_2 a0_3 a0_4 l0_5 l0_6) else (if a0_3 > 1000000000 then (frame_Check.j0 k true a0_0 a0_1 a0_2 a0_3 a0_4 l0_5 l0_6) else (if a0_4 < 0 then (frame_Check.j0 k true a0_0 a0_1 a0_2 a0_3 a0_4 l0_5 l0_6) else (if a0_4 > 1000000000 then (frame_Check.j0 k true a0_0 a0_1 a0_2 a0_3 a0_4 l0_5 l0_6) else (if a0_0 = 3 then (frame_Check.j0 k (a0_4 == 0) a0_0 a0_1 a0_2 a0_3 a0_4 l0_5 l0_6) else (frame_Check.j0 k false a0_0 a0_1 a0_2 a0_3 a0_4 l0_5 l0_6)))))) else (some 1))) = some r := h
 clear h
 replace H := Option.bind_eq_some_iff.mp H
 obtain ⟨t317, A20, H⟩ := H
 replace H : (if t317 = true then (if a0_3 < 0 then (frame_Check.j0 k true a0_0 a0_1 a0_2 a0_3 a0_4 l0_5 l0_6) else (if a0_3 > 1000000000 then (frame_Check.j0 k true a0_0 a0_1 a0_2 a0_3 a0_4 l0_5 l0_6) else (if a0_4 < 0 then (frame_Check.j0 k true a0_0 a0_1 a0_2 a0_3 a0_4 l0_5 l0_6) else (if a0_4 > 1000000000 then (frame_Check.j0 k true a0_0 a0_1 a0_2 a0_3 a0_4 l0_5 l0_6) else (if a0_0 = 3 then (frame_Check.j0 k (a0_4 == 0) a0_0 a0_1 a0_2 a0_3 a0_4 l0_5 l0_6) else (frame_Check.j0 k false a0_0 a0_1 a0_2 a0_3 a0_4 l0_5 l0_6)))))) else (some 1)) = some r := H
 have A2 := Aside0.mk A20
 clear A20
 by_cases c3 : t317 = true
 ·subst c3
  have H1 : (if a0_3 < 0 then (frame_Check.j0 k true a0_0 a0_1 a0_2 a0_3 a0_4 l0_5 l0_6) else (if a0_3 > 1000000000 then (frame_Check.j0 k true a0_0 a0_1 a0_2 a0_3 a0_4 l0_5 l0_6) else (if a0_4 < 0 then (frame_Check.j0 k true a0_0 a0_1 a0_2 a0_3 a0_4 l0_5 l0_6) else (if a0_4 > 1000000000 then (frame_Check.j0 k true a0_0 a0_1 a0_2 a0_3 a0_4 l0_5 l0_6) else (if a0_0 = 3 then (frame_Check.j0 k (a0_4 == 0) a0_0 a0_1 a0_2 a0_3 a0_4 l0_5 l0_6) else (frame_Check.j0 k false a0_0 a0_1 a0_2 a0_3 a0_4 l0_5 l0_6)))))) = some r := by rw [if_pos rfl] at H; exact H
  clear H
  have H := H1
  clear H1
  have HC4 := Aside0.mk H
  clear H
  go_enter Tryd.func28, Tryd.ntmps28
  go_upto_region 3 with (first | ((with_reducible refine gate_dst (N := 1) rfl ?_); refine box_event ?hg (N := 1) ?hd (cs := #[.int .i64 a0_0, .int .i64 a0_1, .int .i64 a0_2, .int .i64 a0_3, .int .i64 a0_4, .slice A0_5 l0_5.length c0_5, .slice A0_6 l0_6.length c0_6]) (t := 31) ?hr ?_; (case hd => rfl); (case hg => rfl); (case hr => first | (go_simp; done) | (go_simp; rfl)); intro gb316 hg w5 hbox hb; have n0_ := Aside0.mk (below_step (by repeat (first | (with_reducible first | exact HB.out | apply below_alloc | apply pw_below_drewN | apply below_drew1) | exact HB.out)) hb); have n1_ := Aside0.mk (hbox); have n2_ := Aside0.mk ((by rw [hg]; exact (below_size (by repeat (first | (with_reducible first | exact HB.out | apply below_alloc | apply pw_below_drewN | apply below_drew1) | exact HB.out))) : w.heap.size ≤ gb316)); have n3_ := Aside0.mk ((by rw [hg]; exact (below_size (by repeat (first | (with_reducible first | exact HB.out | apply below_alloc | apply pw_below_drewN | apply below_drew1) | exact HB.out))) : w.heap.size ≤ gb316)); clear HB; have HB := n0_; have BK316 := n1_; have GW316 := n2_; have GE316 := n3_; clear n0_ n1_ n2_ n3_; clear hb hbox hg; have hcz6_0 : w5.cell? ⟨gb316, 0, none⟩ = some (.int .i64 a0_0) := (blk_cell BK316.out 0).trans rfl; have hcz6_1 : w5.cell? ⟨gb316, 1, none⟩ = some (.int .i64 a0_1) := (blk_cell BK316.out 1).trans rfl; have hcz6_2 : w5.cell? ⟨gb316, 2, none⟩ = some (.int .i64 a0_2) := (blk_cell BK316.out 2).trans rfl; have hcz6_3 : w5.cell? ⟨gb316, 3, none⟩ = some (.int .i64 a0_3) := (blk_cell BK316.out 3).trans rfl; have hcz6_4 : w5.cell? ⟨gb316, 4, none⟩ = some (.int .i64 a0_4) := (blk_cell BK316.out 4).trans rfl; have hcz6_5 : w5.cell? ⟨gb316, 5, none⟩ = some (.slice A0_5 l0_5.length c0_5) := (blk_cell BK316.out 5).trans rfl; have hcz6_6 : w5.cell? ⟨gb316, 6, none⟩ = some (.slice A0_6 l0_6.length c0_6) := (blk_cell BK316.out 6).trans rfl; have hfz6_0 := blk_frozen BK316.out 0; have hfz6_1 := blk_frozen BK316.out 1; have hfz6_2 := blk_frozen BK316.out 2; have hfz6_3 := blk_frozen BK316.out 3; have hfz6_4 := blk_frozen BK316.out 4; have hfz6_5 := blk_frozen BK316.out 5; have hfz6_6 := blk_frozen BK316.out 6) | ((with_reducible refine gate_callee (f := 52) rfl ?_); refine goesL_ (some 5) rfl rfl Tryd.func52 (by kernel_rfl) rfl #[.agg #[.int .i64 a0_0, .int .i64 a0_1, .int .i64 a0_2, .int .i64 a0_3, .int .i64 a0_4, .slice A0_5 l0_5.length c0_5, .slice A0_6 l0_6.length c0_6]] rfl (by (try simp only [List.map_toArray, List.map_cons, List.map_nil]); first | done | rfl | (simp only [List.length_drop, List.length_take]; rfl)) ?_; (with_reducible refine (frame_routed.calls k a0_0 a0_1 a0_2 a0_3 a0_4 _ _ l0_5 _ _ l0_6 true _ ?side1 ?side2 ?side3 ?side4 A2.out).mono ?_); (case side1 => repeat (first | exact (Kd.C_below HR0_5.out HB.out) | (with_reducible refine Kd.C_alloc ?_ _) | (with_reducible refine Kd.C_drewN ?_ _) | (with_reducible refine Kd.C_drew ?_))); (case side2 => exact HC0_5.out); (case side3 => repeat (first | exact (Kd.C_below HR0_6.out HB.out) | (with_reducible refine Kd.C_alloc ?_ _) | (with_reducible refine Kd.C_drewN ?_ _) | (with_reducible refine Kd.C_drew ?_))); (case side4 => exact HC0_6.out); rintro e w7 ⟨rfl, hb⟩; refine ⟨_, rfl, ?_⟩; have n0_ := Aside0.mk (blk_below (g := gb316) (o := .cells #[.int .i64 a0_0, .int .i64 a0_1, .int .i64 a0_2, .int .i64 a0_3, .int .i64 a0_4, .slice A0_5 l0_5.length c0_5, .slice A0_6 l0_6.length c0_6] 31 (0, 0)) (by (with_reducible repeat (first | refine blk_drewN ?_ _ | refine blk_drew ?_ | refine blk_alloc ?_ _)); exact BK316.out) hb); have n1_ := Aside0.mk (below_step (by repeat (first | (with_reducible first | exact HB.out | apply below_alloc | apply pw_below_drewN | apply below_drew1 | refine below_set ?_ GE316.out) | exact HB.out)) hb); clear BK316; clear HB; have BK316 := n0_; have HB := n1_; clear n0_ n1_; (try clear hb); (try clear hb2); (try clear hk); (try clear hi)))
  (try simp only [Act.put, sA_, sB_, sC_])
  go_cut [34] (fun v34 wc => ∃ (kq : Nat) (x34_3 : Bool), v34 = .bool x34_3 ∧ Aside0 (frame_Check.j0 kq x34_3 a0_0 a0_1 a0_2 a0_3 a0_4 l0_5 l0_6 = some r) ∧ Aside0 (kq ≤ k) ∧ Aside0 (wc.heap[gb316]? = some (.cells #[.int .i64 a0_0, .int .i64 a0_1, .int .i64 a0_2, .int .i64 a0_3, .int .i64 a0_4, (.slice A0_5 l0_5.length c0_5), (.slice A0_6 l0_6.length c0_6)] 31 (0, 0))) ∧ Aside0 (Below w.heap.size w wc))
  case first =>
   have H := HC4.out
   clear HC4
   by_cases c8 : a0_3 < 0
   ·rw [if_pos c8] at H
    have c8b0 : decide (a0_3 < 0) = true := decide_eq_true c8
    clear c8
    (first | rw [c8b0] | (simp only [i64_w, i32_w]; rw [c8b0]) | skip)
    have H' := Aside0.mk H
    clear H
    have hcz9_0 : w7.cell? ⟨gb316, 0, none⟩ = some (.int .i64 a0_0) := (blk_cell BK316.out 0).trans rfl
    have hcz9_1 : w7.cell? ⟨gb316, 1, none⟩ = some (.int .i64 a0_1) := (blk_cell BK316.out 1).trans rfl
    have hcz9_2 : w7.cell? ⟨gb316, 2, none⟩ = some (.int .i64 a0_2) := (blk_cell BK316.out 2).trans rfl
    have hcz9_3 : w7.cell? ⟨gb316, 3, none⟩ = some (.int .i64 a0_3) := (blk_cell BK316.out 3).trans rfl
    have hcz9_4 : w7.cell? ⟨gb316, 4, none⟩ = some (.int .i64 a0_4) := (blk_cell BK316.out 4).trans rfl
    have hcz9_5 : w7.cell? ⟨gb316, 5, none⟩ = some (.slice A0_5 l0_5.length c0_5) := (blk_cell BK316.out 5).trans rfl
    have hcz9_6 : w7.cell? ⟨gb316, 6, none⟩ = some (.slice A0_6 l0_6.length c0_6) := (blk_cell BK316.out 6).trans rfl
    have hfz9_0 := blk_frozen BK316.out 0
    have hfz9_1 := blk_frozen BK316.out 1
    have hfz9_2 := blk_frozen BK316.out 2
    have hfz9_3 := blk_frozen BK316.out 3
    have hfz9_4 := blk_frozen BK316.out 4
    have hfz9_5 := blk_frozen BK316.out 5
    have hfz9_6 := blk_frozen BK316.out 6
    go_wp2
    go_meet
    case rel => exact ⟨_, (true), (by first | rfl | (simp; done) | (simp [*]; done)), H', ⟨by first | omega | exact Nat.le_refl _⟩, ⟨by (with_reducible repeat (first | refine blk_drewN ?_ _ | refine blk_drew ?_ | refine blk_alloc ?_ _)); exact BK316.out⟩, ⟨by repeat (first | (with_reducible first | exact HB.out | apply below_alloc | apply pw_below_drewN | apply below_drew1 | refine below_set ?_ GE316.out) | exact HB.out)⟩⟩
   ·rw [if_neg c8] at H
    have c8b0 : decide (a0_3 < 0) = false := decide_eq_false c8
    clear c8
    (first | rw [c8b0] | (simp only [i64_w, i32_w]; rw [c8b0]) | skip)
    by_cases c10 : a0_3 > 1000000000
    ·rw [if_pos c10] at H
     have c10b0 : decide (1000000000 < a0_3) = true := decide_eq_true c10
     clear c10
     have H' := Aside0.mk H
     clear H
     have hcz11_0 : w7.cell? ⟨gb316, 0, none⟩ = some (.int .i64 a0_0) := (blk_cell BK316.out 0).trans rfl
     have hcz11_1 : w7.cell? ⟨gb316, 1, none⟩ = some (.int .i64 a0_1) := (blk_cell BK316.out 1).trans rfl
     have hcz11_2 : w7.cell? ⟨gb316, 2, none⟩ = some (.int .i64 a0_2) := (blk_cell BK316.out 2).trans rfl
     have hcz11_3 : w7.cell? ⟨gb316, 3, none⟩ = some (.int .i64 a0_3) := (blk_cell BK316.out 3).trans rfl
     have hcz11_4 : w7.cell? ⟨gb316, 4, none⟩ = some (.int .i64 a0_4) := (blk_cell BK316.out 4).trans rfl
     have hcz11_5 : w7.cell? ⟨gb316, 5, none⟩ = some (.slice A0_5 l0_5.length c0_5) := (blk_cell BK316.out 5).trans rfl
     have hcz11_6 : w7.cell? ⟨gb316, 6, none⟩ = some (.slice A0_6 l0_6.length c0_6) := (blk_cell BK316.out 6).trans rfl
     have hfz11_0 := blk_frozen BK316.out 0
     have hfz11_1 := blk_frozen BK316.out 1
     have hfz11_2 := blk_frozen BK316.out 2
     have hfz11_3 := blk_frozen BK316.out 3
     have hfz11_4 := blk_frozen BK316.out 4
     have hfz11_5 := blk_frozen BK316.out 5
     have hfz11_6 := blk_frozen BK316.out 6
     go_wp2
     go_meet
     case rel => exact ⟨_, (true), (by first | rfl | (simp; done) | (simp [*]; done)), H', ⟨by first | omega | exact Nat.le_refl _⟩, ⟨by (with_reducible repeat (first | refine blk_drewN ?_ _ | refine blk_drew ?_ | refine blk_alloc ?_ _)); exact BK316.out⟩, ⟨by repeat (first | (with_reducible first | exact HB.out | apply below_alloc | apply pw_below_drewN | apply below_drew1 | refine below_set ?_ GE316.out) | exact HB.out)⟩⟩
    ·rw [if_neg c10] at H
     have c10b0 : decide (1000000000 < a0_3) = false := decide_eq_false c10
     clear c10
     by_cases c12 : a0_4 < 0
     ·rw [if_pos c12] at H
      have c12b0 : decide (a0_4 < 0) = true := decide_eq_true c12
      clear c12
      have H' := Aside0.mk H
      clear H
      have hcz13_0 : w7.cell? ⟨gb316, 0, none⟩ = some (.int .i64 a0_0) := (blk_cell BK316.out 0).trans rfl
      have hcz13_1 : w7.cell? ⟨gb316, 1, none⟩ = some (.int .i64 a0_1) := (blk_cell BK316.out 1).trans rfl
      have hcz13_2 : w7.cell? ⟨gb316, 2, none⟩ = some (.int .i64 a0_2) := (blk_cell BK316.out 2).trans rfl
      have hcz13_3 : w7.cell? ⟨gb316, 3, none⟩ = some (.int .i64 a0_3) := (blk_cell BK316.out 3).trans rfl
      have hcz13_4 : w7.cell? ⟨gb316, 4, none⟩ = some (.int .i64 a0_4) := (blk_cell BK316.out 4).trans rfl
      have hcz13_5 : w7.cell? ⟨gb316, 5, none⟩ = some (.slice A0_5 l0_5.length c0_5) := (blk_cell BK316.out 5).trans rfl
      have hcz13_6 : w7.cell? ⟨gb316, 6, none⟩ = some (.slice A0_6 l0_6.length c0_6) := (blk_cell BK316.out 6).trans rfl
      have hfz13_0 := blk_frozen BK316.out 0
      have hfz13_1 := blk_frozen BK316.out 1
      have hfz13_2 := blk_frozen BK316.out 2
      have hfz13_3 := blk_frozen BK316.out 3
      have hfz13_4 := blk_frozen BK316.out 4
      have hfz13_5 := blk_frozen BK316.out 5
      have hfz13_6 := blk_frozen BK316.out 6
      go_wp2
      go_meet
      case rel => exact ⟨_, (true), (by first | rfl | (simp; done) | (simp [*]; done)), H', ⟨by first | omega | exact Nat.le_refl _⟩, ⟨by (with_reducible repeat (first | refine blk_drewN ?_ _ | refine blk_drew ?_ | refine blk_alloc ?_ _)); exact BK316.out⟩, ⟨by repeat (first | (with_reducible first | exact HB.out | apply below_alloc | apply pw_below_drewN | apply below_drew1 | refine below_set ?_ GE316.out) | exact HB.out)⟩⟩
     ·rw [if_neg c12] at H
      have c12b0 : decide (a0_4 < 0) = false := decide_eq_false c12
      clear c12
      by_cases c14 : a0_4 > 1000000000
      ·rw [if_pos c14] at H
       have c14b0 : decide (1000000000 < a0_4) = true := decide_eq_true c14
       clear c14
       have H' := Aside0.mk H
       clear H
       have hcz15_0 : w7.cell? ⟨gb316, 0, none⟩ = some (.int .i64 a0_0) := (blk_cell BK316.out 0).trans rfl
       have hcz15_1 : w7.cell? ⟨gb316, 1, none⟩ = some (.int .i64 a0_1) := (blk_cell BK316.out 1).trans rfl
       have hcz15_2 : w7.cell? ⟨gb316, 2, none⟩ = some (.int .i64 a0_2) := (blk_cell BK316.out 2).trans rfl
       have hcz15_3 : w7.cell? ⟨gb316, 3, none⟩ = some (.int .i64 a0_3) := (blk_cell BK316.out 3).trans rfl
       have hcz15_4 : w7.cell? ⟨gb316, 4, none⟩ = some (.int .i64 a0_4) := (blk_cell BK316.out 4).trans rfl
       have hcz15_5 : w7.cell? ⟨gb316, 5, none⟩ = some (.slice A0_5 l0_5.length c0_5) := (blk_cell BK316.out 5).trans rfl
       have hcz15_6 : w7.cell? ⟨gb316, 6, none⟩ = some (.slice A0_6 l0_6.length c0_6) := (blk_cell BK316.out 6).trans rfl
       have hfz15_0 := blk_frozen BK316.out 0
       have hfz15_1 := blk_frozen BK316.out 1
       have hfz15_2 := blk_frozen BK316.out 2
       have hfz15_3 := blk_frozen BK316.out 3
       have hfz15_4 := blk_frozen BK316.out 4
       have hfz15_5 := blk_frozen BK316.out 5
       have hfz15_6 := blk_frozen BK316.out 6
       go_wp2
       go_meet
       case rel => exact ⟨_, (true), (by first | rfl | (simp; done) | (simp [*]; done)), H', ⟨by first | omega | exact Nat.le_refl _⟩, ⟨by (with_reducible repeat (first | refine blk_drewN ?_ _ | refine blk_drew ?_ | refine blk_alloc ?_ _)); exact BK316.out⟩, ⟨by repeat (first | (with_reducible first | exact HB.out | apply below_alloc | apply pw_below_drewN | apply below_drew1 | refine below_set ?_ GE316.out) | exact HB.out)⟩⟩
      ·rw [if_neg c14] at H
       have c14b0 : decide (1000000000 < a0_4) = false := decide_eq_false c14
       clear c14
       by_cases c16 : a0_0 = 3
       ·rw [if_pos c16] at H
        have c16b0 : (a0_0 == 3) = true := beq_iff_eq.mpr c16
        have c16b1 : (a0_0 != 3) = false := bne_eq_false_iff_eq.mpr c16
        clear c16
        have H' := Aside0.mk H
        clear H
        have hcz17_0 : w7.cell? ⟨gb316, 0, none⟩ = some (.int .i64 a0_0) := (blk_cell BK316.out 0).trans rfl
        have hcz17_1 : w7.cell? ⟨gb316, 1, none⟩ = some (.int .i64 a0_1) := (blk_cell BK316.out 1).trans rfl
        have hcz17_2 : w7.cell? ⟨gb316, 2, none⟩ = some (.int .i64 a0_2) := (blk_cell BK316.out 2).trans rfl
        have hcz17_3 : w7.cell? ⟨gb316, 3, none⟩ = some (.int .i64 a0_3) := (blk_cell BK316.out 3).trans rfl
        have hcz17_4 : w7.cell? ⟨gb316, 4, none⟩ = some (.int .i64 a0_4) := (blk_cell BK316.out 4).trans rfl
        have hcz17_5 : w7.cell? ⟨gb316, 5, none⟩ = some (.slice A0_5 l0_5.length c0_5) := (blk_cell BK316.out 5).trans rfl
        have hcz17_6 : w7.cell? ⟨gb316, 6, none⟩ = some (.slice A0_6 l0_6.length c0_6) := (blk_cell BK316.out 6).trans rfl
        have hfz17_0 := blk_frozen BK316.out 0
        have hfz17_1 := blk_frozen BK316.out 1
        have hfz17_2 := blk_frozen BK316.out 2
        have hfz17_3 := blk_frozen BK316.out 3
        have hfz17_4 := blk_frozen BK316.out 4
        have hfz17_5 := blk_frozen BK316.out 5
        have hfz17_6 := blk_frozen BK316.out 6
        go_wp2
        go_meet
        case rel => exact ⟨_, ((a0_4 == 0)), (by first | rfl | (simp; done) | (simp [*]; done)), H', ⟨by first | omega | exact Nat.le_refl _⟩, ⟨by (with_reducible repeat (first | refine blk_drewN ?_ _ | refine blk_drew ?_ | refine blk_alloc ?_ _)); exact BK316.out⟩, ⟨by repeat (first | (with_reducible first | exact HB.out | apply below_alloc | apply pw_below_drewN | apply below_drew1 | refine below_set ?_ GE316.out) | exact HB.out)⟩⟩
       ·rw [if_neg c16] at H
        have c16b0 : (a0_0 == 3) = false := beq_eq_false_iff_ne.mpr c16
        have c16b1 : (a0_0 != 3) = true := bne_iff_ne.mpr c16
        have H' := Aside0.mk H
        clear H
        have hcz18_0 : w7.cell? ⟨gb316, 0, none⟩ = some (.int .i64 a0_0) := (blk_cell BK316.out 0).trans rfl
        have hcz18_1 : w7.cell? ⟨gb316, 1, none⟩ = some (.int .i64 a0_1) := (blk_cell BK316.out 1).trans rfl
        have hcz18_2 : w7.cell? ⟨gb316, 2, none⟩ = some (.int .i64 a0_2) := (blk_cell BK316.out 2).trans rfl
        have hcz18_3 : w7.cell? ⟨gb316, 3, none⟩ = some (.int .i64 a0_3) := (blk_cell BK316.out 3).trans rfl
        have hcz18_4 : w7.cell? ⟨gb316, 4, none⟩ = some (.int .i64 a0_4) := (blk_cell BK316.out 4).trans rfl
        have hcz18_5 : w7.cell? ⟨gb316, 5, none⟩ = some (.slice A0_5 l0_5.length c0_5) := (blk_cell BK316.out 5).trans rfl
        have hcz18_6 : w7.cell? ⟨gb316, 6, none⟩ = some (.slice A0_6 l0_6.length c0_6) := (blk_cell BK316.out 6).trans rfl
        have hfz18_0 := blk_frozen BK316.out 0
        have hfz18_1 := blk_frozen BK316.out 1
        have hfz18_2 := blk_frozen BK316.out 2
        have hfz18_3 := blk_frozen BK316.out 3
        have hfz18_4 := blk_frozen BK316.out 4
        have hfz18_5 := blk_frozen BK316.out 5
        have hfz18_6 := blk_frozen BK316.out 6
        go_wp2
        go_meet
        case rel => exact ⟨_, (false), (by first | rfl | (simp; done) | (simp [*]; done)), H', ⟨by first | omega | exact Nat.le_refl _⟩, ⟨by (with_reducible repeat (first | refine blk_drewN ?_ _ | refine blk_drew ?_ | refine blk_alloc ?_ _)); exact BK316.out⟩, ⟨by repeat (first | (with_reducible first | exact HB.out | apply below_alloc | apply pw_below_drewN | apply below_drew1 | refine below_set ?_ GE316.out) | exact HB.out)⟩⟩
  case rest =>
   clear HC4
   try clear c1
   try clear c2
   try clear p2
   try clear c3
   try clear c5
   try clear c8
   try clear c8b0
   try clear c10
   try clear c10b0
   try clear c12
   try clear c12b0
   try clear c14
   try clear c14b0
   try clear c16
   try clear c16b0
   try clear c16b1
   try clear hcz11_0
   try clear hcz11_1
   try clear hcz11_2
   try clear hcz11_3
   try clear hcz11_4
   try clear hcz11_5
   try clear hcz11_6
   try clear hcz13_0
   try clear hcz13_1
   try clear hcz13_2
   try clear hcz13_3
   try clear hcz13_4
   try clear hcz13_5
   try clear hcz13_6
   try clear hcz15_0
   try clear hcz15_1
   try clear hcz15_2
   try clear hcz15_3
   try clear hcz15_4
   try clear hcz15_5
   try clear hcz15_6
   try clear hcz17_0
   try clear hcz17_1
   try clear hcz17_2
   try clear hcz17_3
   try clear hcz17_4
   try clear hcz17_5
   try clear hcz17_6
   try clear hcz18_0
   try clear hcz18_1
   try clear hcz18_2
   try clear hcz18_3
   try clear hcz18_4
   try clear hcz18_5
   try clear hcz18_6
   try clear hcz6_0
   try clear hcz6_1
   try clear hcz6_2
   try clear hcz6_3
   try clear hcz6_4
   try clear hcz6_5
   try clear hcz6_6
   try clear hcz9_0
   try clear hcz9_1
   try clear hcz9_2
   try clear hcz9_3
   try clear hcz9_4
   try clear hcz9_5
   try clear hcz9_6
   try clear hfz11_0
   try clear hfz11_1
   try clear hfz11_2
   try clear hfz11_3
   try clear hfz11_4
   try clear hfz11_5
   try clear hfz11_6
   try clear hfz13_0
   try clear hfz13_1
   try clear hfz13_2
   try clear hfz13_3
   try clear hfz13_4
   try clear hfz13_5
   try clear hfz13_6
   try clear hfz15_0
   try clear hfz15_1
   try clear hfz15_2
   try clear hfz15_3
   try clear hfz15_4
   try clear hfz15_5
   try clear hfz15_6
   try clear hfz17_0
   try clear hfz17_1
   try clear hfz17_2
   try clear hfz17_3
   try clear hfz17_4
   try clear hfz17_5
   try clear hfz17_6
   try clear hfz18_0
   try clear hfz18_1
   try clear hfz18_2
   try clear hfz18_3
   try clear hfz18_4
   try clear hfz18_5
   try clear hfz18_6
   try clear hfz6_0
   try clear hfz6_1
   try clear hfz6_2
   try clear hfz6_3
   try clear hfz6_4
   try clear hfz6_5
   try clear hfz6_6
   try clear hfz9_0
   try clear hfz9_1
   try clear hfz9_2
   try clear hfz9_3
   try clear hfz9_4
   try clear hfz9_5
   try clear hfz9_6
   obtain ⟨kq, x34_3, rfl, HA, HJ3, BK316, HB⟩ := hcut
   cases kq with
   | zero => exact absurd HA.out (by simp [frame_Check.j0])
   | succ kj3 =>
    have H := HA.out
    clear HA
    simp only [frame_Check.j0] at H
    by_cases c19 : x34_3 = true
    ·subst c19
     have H1 : (some 5) = some r := by rw [if_pos rfl] at H; exact H
     clear H
     have H := H1
     clear H1
     obtain rfl := Option.some.inj H
     go_wp2
     go_ret
     exact ⟨by first | rfl | (simp [errW_none, errW_some] <;> rfl) | (simp [*, errW_none, errW_some] <;> rfl), by repeat (first | (with_reducible first | exact HB.out | apply below_alloc | apply pw_below_drewN | apply below_drew1 | refine below_set ?_ GE316.out) | exact HB.out)⟩
    ·replace c19 := Bool.eq_false_iff.mpr c19
     subst c19
     have H1 : ((frame_lineError.f kj3 l0_5).bind fun t318 => (if t318 = 0 then ((frame_possible.f kj3 l0_6).bind fun t319 => (if t319 = true then (some 0) else (some 1))) else (some t318))) = some r := by rw [if_neg (show ¬ (false = true) by decide)] at H; exact H
     clear H
     have H := H1
     clear H1
     replace H := Option.bind_eq_some_iff.mp H
     obtain ⟨t318, A200, H⟩ := H
     replace H : (if t318 = 0 then ((frame_possible.f kj3 l0_6).bind fun t319 => (if t319 = true then (some 0) else (some 1))) else (some t318)) = some r := H
     have A20 := Aside0.mk A200
     clear A200
     by_cases c21 : t318 = 0
     ·rw [if_pos c21] at H
      have c21b0 : (t318 == 0) = true := beq_iff_eq.mpr c21
      have c21b1 : (t318 != 0) = false := bne_eq_false_iff_eq.mpr c21
      clear c21
      replace H := Option.bind_eq_some_iff.mp H
      obtain ⟨t319, A220, H⟩ := H
      replace H : (if t319 = true then (some 0) else (some 1)) = some r := H
      have A22 := Aside0.mk A220
      clear A220
      by_cases c23 : t319 = true
      ·subst c23
       have H1 : (some 0) = some r := by rw [if_pos rfl] at H; exact H
       clear H
       have H := H1
       clear H1
       obtain rfl := Option.some.inj H
       have hcz24_0 : wc.cell? ⟨gb316, 0, none⟩ = some (.int .i64 a0_0) := (blk_cell BK316.out 0).trans rfl
       have hcz24_1 : wc.cell? ⟨gb316, 1, none⟩ = some (.int .i64 a0_1) := (blk_cell BK316.out 1).trans rfl
       have hcz24_2 : wc.cell? ⟨gb316, 2, none⟩ = some (.int .i64 a0_2) := (blk_cell BK316.out 2).trans rfl
       have hcz24_3 : wc.cell? ⟨gb316, 3, none⟩ = some (.int .i64 a0_3) := (blk_cell BK316.out 3).trans rfl
       have hcz24_4 : wc.cell? ⟨gb316, 4, none⟩ = some (.int .i64 a0_4) := (blk_cell BK316.out 4).trans rfl
       have hcz24_5 : wc.cell? ⟨gb316, 5, none⟩ = some (.slice A0_5 l0_5.length c0_5) := (blk_cell BK316.out 5).trans rfl
       have hcz24_6 : wc.cell? ⟨gb316, 6, none⟩ = some (.slice A0_6 l0_6.length c0_6) := (blk_cell BK316.out 6).trans rfl
       have hfz24_0 := blk_frozen BK316.out 0
       have hfz24_1 := blk_frozen BK316.out 1
       have hfz24_2 := blk_frozen BK316.out 2
       have hfz24_3 := blk_frozen BK316.out 3
       have hfz24_4 := blk_frozen BK316.out 4
       have hfz24_5 := blk_frozen BK316.out 5
       have hfz24_6 := blk_frozen BK316.out 6
       go_wp2_with (first | ((with_reducible refine gate_callee (f := 43) rfl ?_); refine goesL_ (some 37) rfl rfl Tryd.func43 (by kernel_rfl) rfl #[.slice A0_5 l0_5.length c0_5] rfl (by (try simp only [List.map_toArray, List.map_cons, List.map_nil]); first | done | rfl | (simp only [List.length_drop, List.length_take]; rfl)) ?_; (with_reducible refine (frame_lineError.calls kj3 _ _ l0_5 t318 _ ?side1 ?side2 A20.out).mono ?_); (case side1 => repeat (first | exact (Kd.C_below HR0_5.out HB.out) | (with_reducible refine Kd.C_alloc ?_ _) | (with_reducible refine Kd.C_drewN ?_ _) | (with_reducible refine Kd.C_drew ?_))); (case side2 => exact HC0_5.out); rintro e w' ⟨rfl, ⟨nd, rfl⟩⟩; refine ⟨_, rfl, ?_⟩) | ((with_reducible refine gate_callee (f := 44) rfl ?_); refine goesL_ (some 43) rfl rfl Tryd.func44 (by kernel_rfl) rfl #[.slice A0_6 l0_6.length c0_6] rfl (by (try simp only [List.map_toArray, List.map_cons, List.map_nil]); first | done | rfl | (simp only [List.length_drop, List.length_take]; rfl)) ?_; (with_reducible refine (frame_possible.calls kj3 _ _ l0_6 true _ ?side1 ?side2 A22.out).mono ?_); (case side1 => repeat (first | exact (Kd.C_below HR0_6.out (by repeat (first | (with_reducible first | exact HB.out | apply below_alloc | apply pw_below_drewN | apply below_drew1 | refine below_set ?_ GE316.out) | exact HB.out))) | (with_reducible refine Kd.C_alloc ?_ _) | (with_reducible refine Kd.C_drewN ?_ _) | (with_reducible refine Kd.C_drew ?_))); (case side2 => exact HC0_6.out); rintro e w25 ⟨rfl, hb⟩; refine ⟨_, rfl, ?_⟩; have n0_ := Aside0.mk (blk_below (g := gb316) (o := .cells #[.int .i64 a0_0, .int .i64 a0_1, .int .i64 a0_2, .int .i64 a0_3, .int .i64 a0_4, .slice A0_5 l0_5.length c0_5, .slice A0_6 l0_6.length c0_6] 31 (0, 0)) (by (with_reducible repeat (first | refine blk_drewN ?_ _ | refine blk_drew ?_ | refine blk_alloc ?_ _)); exact BK316.out) hb); have n1_ := Aside0.mk (below_step (by repeat (first | (with_reducible first | exact HB.out | apply below_alloc | apply pw_below_drewN | apply below_drew1 | refine below_set ?_ GE316.out) | exact HB.out)) hb); clear BK316; clear HB; have BK316 := n0_; have HB := n1_; clear n0_ n1_; (try clear hb); (try clear hb2); (try clear hk); (try clear hi)))
       go_ret
       exact ⟨by first | rfl | (simp [errW_none, errW_some] <;> rfl) | (simp [*, errW_none, errW_some] <;> rfl), by repeat (first | (with_reducible first | exact HB.out | apply below_alloc | apply pw_below_drewN | apply below_drew1 | refine below_set ?_ GE316.out) | exact HB.out)⟩
      ·replace c23 := Bool.eq_false_iff.mpr c23
       subst c23
       have H1 : (some 1) = some r := by rw [if_neg (show ¬ (false = true) by decide)] at H; exact H
       clear H
       have H := H1
       clear H1
       obtain rfl := Option.some.inj H
       have hcz26_0 : wc.cell? ⟨gb316, 0, none⟩ = some (.int .i64 a0_0) := (blk_cell BK316.out 0).trans rfl
       have hcz26_1 : wc.cell? ⟨gb316, 1, none⟩ = some (.int .i64 a0_1) := (blk_cell BK316.out 1).trans rfl
       have hcz26_2 : wc.cell? ⟨gb316, 2, none⟩ = some (.int .i64 a0_2) := (blk_cell BK316.out 2).trans rfl
       have hcz26_3 : wc.cell? ⟨gb316, 3, none⟩ = some (.int .i64 a0_3) := (blk_cell BK316.out 3).trans rfl
       have hcz26_4 : wc.cell? ⟨gb316, 4, none⟩ = some (.int .i64 a0_4) := (blk_cell BK316.out 4).trans rfl
       have hcz26_5 : wc.cell? ⟨gb316, 5, none⟩ = some (.slice A0_5 l0_5.length c0_5) := (blk_cell BK316.out 5).trans rfl
       have hcz26_6 : wc.cell? ⟨gb316, 6, none⟩ = some (.slice A0_6 l0_6.length c0_6) := (blk_cell BK316.out 6).trans rfl
       have hfz26_0 := blk_frozen BK316.out 0
       have hfz26_1 := blk_frozen BK316.out 1
       have hfz26_2 := blk_frozen BK316.out 2
       have hfz26_3 := blk_frozen BK316.out 3
       have hfz26_4 := blk_frozen BK316.out 4
       have hfz26_5 := blk_frozen BK316.out 5
       have hfz26_6 := blk_frozen BK316.out 6
       go_wp2_with (first | ((with_reducible refine gate_callee (f := 43) rfl ?_); refine goesL_ (some 37) rfl rfl Tryd.func43 (by kernel_rfl) rfl #[.slice A0_5 l0_5.length c0_5] rfl (by (try simp only [List.map_toArray, List.map_cons, List.map_nil]); first | done | rfl | (simp only [List.length_drop, List.length_take]; rfl)) ?_; (with_reducible refine (frame_lineError.calls kj3 _ _ l0_5 t318 _ ?side1 ?side2 A20.out).mono ?_); (case side1 => repeat (first | exact (Kd.C_below HR0_5.out HB.out) | (with_reducible refine Kd.C_alloc ?_ _) | (with_reducible refine Kd.C_drewN ?_ _) | (with_reducible refine Kd.C_drew ?_))); (case side2 => exact HC0_5.out); rintro e w' ⟨rfl, ⟨nd, rfl⟩⟩; refine ⟨_, rfl, ?_⟩) | ((with_reducible refine gate_callee (f := 44) rfl ?_); refine goesL_ (some 43) rfl rfl Tryd.func44 (by kernel_rfl) rfl #[.slice A0_6 l0_6.length c0_6] rfl (by (try simp only [List.map_toArray, List.map_cons, List.map_nil]); first | done | rfl | (simp only [List.length_drop, List.length_take]; rfl)) ?_; (with_reducible refine (frame_possible.calls kj3 _ _ l0_6 false _ ?side1 ?side2 A22.out).mono ?_); (case side1 => repeat (first | exact (Kd.C_below HR0_6.out (by repeat (first | (with_reducible first | exact HB.out | apply below_alloc | apply pw_below_drewN | apply below_drew1 | refine below_set ?_ GE316.out) | exact HB.out))) | (with_reducible refine Kd.C_alloc ?_ _) | (with_reducible refine Kd.C_drewN ?_ _) | (with_reducible refine Kd.C_drew ?_))); (case side2 => exact HC0_6.out); rintro e w27 ⟨rfl, hb⟩; refine ⟨_, rfl, ?_⟩; have n0_ := Aside0.mk (blk_below (g := gb316) (o := .cells #[.int .i64 a0_0, .int .i64 a0_1, .int .i64 a0_2, .int .i64 a0_3, .int .i64 a0_4, .slice A0_5 l0_5.length c0_5, .slice A0_6 l0_6.length c0_6] 31 (0, 0)) (by (with_reducible repeat (first | refine blk_drewN ?_ _ | refine blk_drew ?_ | refine blk_alloc ?_ _)); exact BK316.out) hb); have n1_ := Aside0.mk (below_step (by repeat (first | (with_reducible first | exact HB.out | apply below_alloc | apply pw_below_drewN | apply below_drew1 | refine below_set ?_ GE316.out) | exact HB.out)) hb); clear BK316; clear HB; have BK316 := n0_; have HB := n1_; clear n0_ n1_; (try clear hb); (try clear hb2); (try clear hk); (try clear hi)))
       go_ret
       exact ⟨by first | rfl | (simp [errW_none, errW_some] <;> rfl) | (simp [*, errW_none, errW_some] <;> rfl), by repeat (first | (with_reducible first | exact HB.out | apply below_alloc | apply pw_below_drewN | apply below_drew1 | refine below_set ?_ GE316.out) | exact HB.out)⟩
     ·rw [if_neg c21] at H
      have c21b0 : (t318 == 0) = false := beq_eq_false_iff_ne.mpr c21
      have c21b1 : (t318 != 0) = true := bne_iff_ne.mpr c21
      obtain rfl := Option.some.inj H
      have hcz28_0 : wc.cell? ⟨gb316, 0, none⟩ = some (.int .i64 a0_0) := (blk_cell BK316.out 0).trans rfl
      have hcz28_1 : wc.cell? ⟨gb316, 1, none⟩ = some (.int .i64 a0_1) := (blk_cell BK316.out 1).trans rfl
      have hcz28_2 : wc.cell? ⟨gb316, 2, none⟩ = some (.int .i64 a0_2) := (blk_cell BK316.out 2).trans rfl
      have hcz28_3 : wc.cell? ⟨gb316, 3, none⟩ = some (.int .i64 a0_3) := (blk_cell BK316.out 3).trans rfl
      have hcz28_4 : wc.cell? ⟨gb316, 4, none⟩ = some (.int .i64 a0_4) := (blk_cell BK316.out 4).trans rfl
      have hcz28_5 : wc.cell? ⟨gb316, 5, none⟩ = some (.slice A0_5 l0_5.length c0_5) := (blk_cell BK316.out 5).trans rfl
      have hcz28_6 : wc.cell? ⟨gb316, 6, none⟩ = some (.slice A0_6 l0_6.length c0_6) := (blk_cell BK316.out 6).trans rfl
      have hfz28_0 := blk_frozen BK316.out 0
      have hfz28_1 := blk_frozen BK316.out 1
      have hfz28_2 := blk_frozen BK316.out 2
      have hfz28_3 := blk_frozen BK316.out 3
      have hfz28_4 := blk_frozen BK316.out 4
      have hfz28_5 := blk_frozen BK316.out 5
      have hfz28_6 := blk_frozen BK316.out 6
      go_wp2_with (first | ((with_reducible refine gate_callee (f := 43) rfl ?_); refine goesL_ (some 37) rfl rfl Tryd.func43 (by kernel_rfl) rfl #[.slice A0_5 l0_5.length c0_5] rfl (by (try simp only [List.map_toArray, List.map_cons, List.map_nil]); first | done | rfl | (simp only [List.length_drop, List.length_take]; rfl)) ?_; (with_reducible refine (frame_lineError.calls kj3 _ _ l0_5 t318 _ ?side1 ?side2 A20.out).mono ?_); (case side1 => repeat (first | exact (Kd.C_below HR0_5.out HB.out) | (with_reducible refine Kd.C_alloc ?_ _) | (with_reducible refine Kd.C_drewN ?_ _) | (with_reducible refine Kd.C_drew ?_))); (case side2 => exact HC0_5.out); rintro e w' ⟨rfl, ⟨nd, rfl⟩⟩; refine ⟨_, rfl, ?_⟩))
      go_ret
      exact ⟨by first | rfl | (simp [errW_none, errW_some] <;> rfl) | (simp [*, errW_none, errW_some] <;> rfl), by repeat (first | (with_reducible first | exact HB.out | apply below_alloc | apply pw_below_drewN | apply below_drew1 | refine below_set ?_ GE316.out) | exact HB.out)⟩
 ·replace c3 := Bool.eq_false_iff.mpr c3
  subst c3
  have H1 : (some 1) = some r := by rw [if_neg (show ¬ (false = true) by decide)] at H; exact H
  clear H
  have H := H1
  clear H1
  obtain rfl := Option.some.inj H
  go_enter Tryd.func28, Tryd.ntmps28
  go_wp2_with (first | ((with_reducible refine gate_dst (N := 1) rfl ?_); refine box_event ?hg (N := 1) ?hd (cs := #[.int .i64 a0_0, .int .i64 a0_1, .int .i64 a0_2, .int .i64 a0_3, .int .i64 a0_4, .slice A0_5 l0_5.length c0_5, .slice A0_6 l0_6.length c0_6]) (t := 31) ?hr ?_; (case hd => rfl); (case hg => rfl); (case hr => first | (go_simp; done) | (go_simp; rfl)); intro gb316 hg w29 hbox hb; have n0_ := Aside0.mk (below_step (by repeat (first | (with_reducible first | exact HB.out | apply below_alloc | apply pw_below_drewN | apply below_drew1) | exact HB.out)) hb); have n1_ := Aside0.mk (hbox); have n2_ := Aside0.mk ((by rw [hg]; exact (below_size (by repeat (first | (with_reducible first | exact HB.out | apply below_alloc | apply pw_below_drewN | apply below_drew1) | exact HB.out))) : w.heap.size ≤ gb316)); have n3_ := Aside0.mk ((by rw [hg]; exact (below_size (by repeat (first | (with_reducible first | exact HB.out | apply below_alloc | apply pw_below_drewN | apply below_drew1) | exact HB.out))) : w.heap.size ≤ gb316)); clear HB; have HB := n0_; have BK316 := n1_; have GW316 := n2_; have GE316 := n3_; clear n0_ n1_ n2_ n3_; clear hb hbox hg; have hcz30_0 : w29.cell? ⟨gb316, 0, none⟩ = some (.int .i64 a0_0) := (blk_cell BK316.out 0).trans rfl; have hcz30_1 : w29.cell? ⟨gb316, 1, none⟩ = some (.int .i64 a0_1) := (blk_cell BK316.out 1).trans rfl; have hcz30_2 : w29.cell? ⟨gb316, 2, none⟩ = some (.int .i64 a0_2) := (blk_cell BK316.out 2).trans rfl; have hcz30_3 : w29.cell? ⟨gb316, 3, none⟩ = some (.int .i64 a0_3) := (blk_cell BK316.out 3).trans rfl; have hcz30_4 : w29.cell? ⟨gb316, 4, none⟩ = some (.int .i64 a0_4) := (blk_cell BK316.out 4).trans rfl; have hcz30_5 : w29.cell? ⟨gb316, 5, none⟩ = some (.slice A0_5 l0_5.length c0_5) := (blk_cell BK316.out 5).trans rfl; have hcz30_6 : w29.cell? ⟨gb316, 6, none⟩ = some (.slice A0_6 l0_6.length c0_6) := (blk_cell BK316.out 6).trans rfl; have hfz30_0 := blk_frozen BK316.out 0; have hfz30_1 := blk_frozen BK316.out 1; have hfz30_2 := blk_frozen BK316.out 2; have hfz30_3 := blk_frozen BK316.out 3; have hfz30_4 := blk_frozen BK316.out 4; have hfz30_5 := blk_frozen BK316.out 5; have hfz30_6 := blk_frozen BK316.out 6) | ((with_reducible refine gate_callee (f := 52) rfl ?_); refine goesL_ (some 5) rfl rfl Tryd.func52 (by kernel_rfl) rfl #[.agg #[.int .i64 a0_0, .int .i64 a0_1, .int .i64 a0_2, .int .i64 a0_3, .int .i64 a0_4, .slice A0_5 l0_5.length c0_5, .slice A0_6 l0_6.length c0_6]] rfl (by (try simp only [List.map_toArray, List.map_cons, List.map_nil]); first | done | rfl | (simp only [List.length_drop, List.length_take]; rfl)) ?_; (with_reducible refine (frame_routed.calls k a0_0 a0_1 a0_2 a0_3 a0_4 _ _ l0_5 _ _ l0_6 false _ ?side1 ?side2 ?side3 ?side4 A2.out).mono ?_); (case side1 => repeat (first | exact (Kd.C_below HR0_5.out HB.out) | (with_reducible refine Kd.C_alloc ?_ _) | (with_reducible refine Kd.C_drewN ?_ _) | (with_reducible refine Kd.C_drew ?_))); (case side2 => exact HC0_5.out); (case side3 => repeat (first | exact (Kd.C_below HR0_6.out HB.out) | (with_reducible refine Kd.C_alloc ?_ _) | (with_reducible refine Kd.C_drewN ?_ _) | (with_reducible refine Kd.C_drew ?_))); (case side4 => exact HC0_6.out); rintro e w31 ⟨rfl, hb⟩; refine ⟨_, rfl, ?_⟩; have n0_ := Aside0.mk (blk_below (g := gb316) (o := .cells #[.int .i64 a0_0, .int .i64 a0_1, .int .i64 a0_2, .int .i64 a0_3, .int .i64 a0_4, .slice A0_5 l0_5.length c0_5, .slice A0_6 l0_6.length c0_6] 31 (0, 0)) (by (with_reducible repeat (first | refine blk_drewN ?_ _ | refine blk_drew ?_ | refine blk_alloc ?_ _)); exact BK316.out) hb); have n1_ := Aside0.mk (below_step (by repeat (first | (with_reducible first | exact HB.out | apply below_alloc | apply pw_below_drewN | apply below_drew1 | refine below_set ?_ GE316.out) | exact HB.out)) hb); clear BK316; clear HB; have BK316 := n0_; have HB := n1_; clear n0_ n1_; (try clear hb); (try clear hb2); (try clear hk); (try clear hi)))
  go_ret
  exact ⟨by first | rfl | (simp [errW_none, errW_some] <;> rfl) | (simp [*, errW_none, errW_some] <;> rfl), by repeat (first | (with_reducible first | exact HB.out | apply below_alloc | apply pw_below_drewN | apply below_drew1 | refine below_set ?_ GE316.out) | exact HB.out)⟩
def IsS88 (w0 W : World) (g : Nat) (f0 : ByteArray) (f1 : Int) (f2 : Int) (f3 : Int) : Prop := W.heap[g]? = some (.cells #[.string f0, .int .i64 f1, .int .i64 f2, .int .i64 f3] 88 (0, 0)) ∧ w0.heap.size ≤ g
theorem IsS88.grown {w0 W : World} {g : Nat} {f0 : ByteArray} {f1 : Int} {f2 : Int} {f3 : Int} {W1 : World} {row : Option Nat} (h : IsS88 w0 W g f0 f1 f2 f3) (hw : W.grownBy W1 row) (hne : some g ≠ row) : IsS88 w0 W1 g f0 f1 f2 f3 := by
 obtain ⟨hb, hg⟩ := h
 exact ⟨blk_grown hb hw hne, hg⟩
theorem IsS88.kept {w0 W : World} {g : Nat} {f0 : ByteArray} {f1 : Int} {f2 : Int} {f3 : Int} {W1 : World} {S : Nat → Prop} (h : IsS88 w0 W g f0 f1 f2 f3) (hk : Kept W W1 S) (hne : ¬ S g) : IsS88 w0 W1 g f0 f1 f2 f3 := by
 obtain ⟨hb, hg⟩ := h
 exact ⟨blk_kept hb hk hne, hg⟩
theorem IsS88.below {w0 W : World} {g : Nat} {f0 : ByteArray} {f1 : Int} {f2 : Int} {f3 : Int} {W1 : World} (h : IsS88 w0 W g f0 f1 f2 f3) (hw : Below W.heap.size W W1) : IsS88 w0 W1 g f0 f1 f2 f3 := h.grown (grown_of_below hw none) (by simp)
theorem IsS88.alloc {w0 W : World} {g : Nat} {f0 : ByteArray} {f1 : Int} {f2 : Int} {f3 : Int} (h : IsS88 w0 W g f0 f1 f2 f3) (o : Obj) : IsS88 w0 (W.alloc o) g f0 f1 f2 f3 := h.below (below_alloc (Below.refl _ _) o)
theorem IsS88.drewN {w0 W : World} {g : Nat} {f0 : ByteArray} {f1 : Int} {f2 : Int} {f3 : Int} (h : IsS88 w0 W g f0 f1 f2 f3) (m : Nat) : IsS88 w0 (W.drewN m) g f0 f1 f2 f3 := h
theorem IsS88.drew {w0 W : World} {g : Nat} {f0 : ByteArray} {f1 : Int} {f2 : Int} {f3 : Int} (h : IsS88 w0 W g f0 f1 f2 f3) : IsS88 w0 W.drew g f0 f1 f2 f3 := h
theorem IsS88.at_ {w0 W : World} {g : Nat} {f0 : ByteArray} {f1 : Int} {f2 : Int} {f3 : Int} {w' : World} {m : Nat} (hq : W.drewN m = w') (h : IsS88 w0 W g f0 f1 f2 f3) : IsS88 w0 w' g f0 f1 f2 f3 := by subst hq; exact IsS88.drewN h m
theorem IsS88.apart {w0 W : World} {g : Nat} {f0 : ByteArray} {f1 : Int} {f2 : Int} {f3 : Int} {α : Type} {d : Kd α} {e : Nat} {base : Nat} {ok : Nat → Prop} {v : Value} {xs : List α} (h : IsS88 w0 W g f0 f1 f2 f3) (ho : d.R e W base ok v xs) (ht : ∀ q, q ∈ e :: d.E → q ≠ 88) : d.R e W base (fun k => ok k ∧ k ≠ g) v xs := by
 obtain ⟨hb, hg⟩ := h
 exact Kd.R_types ho hb ht
theorem IsS88.own_ne {w0 W : World} {g : Nat} {f0 : ByteArray} {f1 : Int} {f2 : Int} {f3 : Int} {α : Type} {d : Kd α} {e : Nat} {base : Nat} {ok : Nat → Prop} {v : Value} {xs : List α} (h : IsS88 w0 W g f0 f1 f2 f3) (ho : d.R e W base ok v xs) (ht : e ≠ 88) : some g ≠ v.ownBlock := by
 obtain ⟨hb, hg⟩ := h
 exact Kd.R_ne ho hb ht
theorem IsS88.lt {w0 W : World} {g : Nat} {f0 : ByteArray} {f1 : Int} {f2 : Int} {f3 : Int} (h : IsS88 w0 W g f0 f1 f2 f3) : g < W.heap.size := by
 obtain ⟨hb, hg⟩ := h
 exact blk_lt hb
theorem IsS88.ge {w0 W : World} {g : Nat} {f0 : ByteArray} {f1 : Int} {f2 : Int} {f3 : Int} (h : IsS88 w0 W g f0 f1 f2 f3) : w0.heap.size ≤ g := by
 obtain ⟨hb, hg⟩ := h
 exact hg
theorem IsS88.ne_blk {w0 W : World} {g : Nat} {f0 : ByteArray} {f1 : Int} {f2 : Int} {f3 : Int} {a : Nat} {cs : Array Value} {t : TypeId} {fr : Nat × Nat} (h : IsS88 w0 W g f0 f1 f2 f3) (hb2 : W.heap[a]? = some (.cells cs t fr)) (ht : t ≠ 88) : g ≠ a := by
 obtain ⟨hb, hg⟩ := h
 rintro rfl
 rw [hb] at hb2
 injection hb2 with hb2
 injection hb2 with _ ht2
 exact ht ht2.symm
theorem IsS88.far {w0 W : World} {g : Nat} {f0 : ByteArray} {f1 : Int} {f2 : Int} {f3 : Int} {p : Addr} (h : IsS88 w0 W g f0 f1 f2 f3) (hne : g ≠ p.block) (u : Value) : IsS88 w0 (W.setCell p u) g f0 f1 f2 f3 := by
 obtain ⟨hb, hg⟩ := h
 exact ⟨blk_far hb hne u, hg⟩
theorem cellS88_0 {W : World} {g : Nat} {f0 : ByteArray} {f1 : Int} {f2 : Int} {f3 : Int} (h : W.heap[g]? = some (.cells #[.string f0, .int .i64 f1, .int .i64 f2, .int .i64 f3] 88 (0, 0))) : W.cell? ⟨g, 0, none⟩ = some (.string f0) := (blk_cell h 0).trans rfl
theorem IsS88.set_0 {w0 W : World} {g : Nat} {f0 : ByteArray} {f1 : Int} {f2 : Int} {f3 : Int} (h : IsS88 w0 W g f0 f1 f2 f3) (x : ByteArray) : IsS88 w0 (W.setCell ⟨g, 0, none⟩ (.string x)) g x f1 f2 f3 := by
 obtain ⟨hb, hg⟩ := h
 exact ⟨by simpa using blk_set hb 0 (.string x), hg⟩
theorem cellS88_1 {W : World} {g : Nat} {f0 : ByteArray} {f1 : Int} {f2 : Int} {f3 : Int} (h : W.heap[g]? = some (.cells #[.string f0, .int .i64 f1, .int .i64 f2, .int .i64 f3] 88 (0, 0))) : W.cell? ⟨g, 1, none⟩ = some (.int .i64 f1) := (blk_cell h 1).trans rfl
theorem IsS88.set_1 {w0 W : World} {g : Nat} {f0 : ByteArray} {f1 : Int} {f2 : Int} {f3 : Int} (h : IsS88 w0 W g f0 f1 f2 f3) (x : Int) : IsS88 w0 (W.setCell ⟨g, 1, none⟩ (.int .i64 x)) g f0 x f2 f3 := by
 obtain ⟨hb, hg⟩ := h
 exact ⟨by simpa using blk_set hb 1 (.int .i64 x), hg⟩
theorem cellS88_2 {W : World} {g : Nat} {f0 : ByteArray} {f1 : Int} {f2 : Int} {f3 : Int} (h : W.heap[g]? = some (.cells #[.string f0, .int .i64 f1, .int .i64 f2, .int .i64 f3] 88 (0, 0))) : W.cell? ⟨g, 2, none⟩ = some (.int .i64 f2) := (blk_cell h 2).trans rfl
theorem IsS88.set_2 {w0 W : World} {g : Nat} {f0 : ByteArray} {f1 : Int} {f2 : Int} {f3 : Int} (h : IsS88 w0 W g f0 f1 f2 f3) (x : Int) : IsS88 w0 (W.setCell ⟨g, 2, none⟩ (.int .i64 x)) g f0 f1 x f3 := by
 obtain ⟨hb, hg⟩ := h
 exact ⟨by simpa using blk_set hb 2 (.int .i64 x), hg⟩
theorem cellS88_3 {W : World} {g : Nat} {f0 : ByteArray} {f1 : Int} {f2 : Int} {f3 : Int} (h : W.heap[g]? = some (.cells #[.string f0, .int .i64 f1, .int .i64 f2, .int .i64 f3] 88 (0, 0))) : W.cell? ⟨g, 3, none⟩ = some (.int .i64 f3) := (blk_cell h 3).trans rfl
theorem IsS88.set_3 {w0 W : World} {g : Nat} {f0 : ByteArray} {f1 : Int} {f2 : Int} {f3 : Int} (h : IsS88 w0 W g f0 f1 f2 f3) (x : Int) : IsS88 w0 (W.setCell ⟨g, 3, none⟩ (.int .i64 x)) g f0 f1 f2 x := by
 obtain ⟨hb, hg⟩ := h
 exact ⟨by simpa using blk_set hb 3 (.int .i64 x), hg⟩
def encode_Reader_Fail.f (s0_0 : ByteArray) (s0_1 : Int) (s0_2 : Int) (s0_3 : Int) : Option (ByteArray × Int × Int × Int) := if s0_3 = 0 then (some (s0_0, s0_1, s0_2, 2)) else (some (s0_0, s0_1, s0_2, s0_3))
set_option maxHeartbeats 8000000 in
set_option maxRecDepth 100000 in
theorem encode_Reader_Fail.calls (g : Nat) (s0_0 : ByteArray) (s0_1 : Int) (s0_2 : Int) (s0_3 : Int) (r1 : ByteArray) (r2 : Int) (r3 : Int) (r4 : Int) (w0 w : World) (hI : IsS88 w0 w g s0_0 s0_1 s0_2 s0_3) (hB : Below w0.heap.size w0 w) (h : encode_Reader_Fail.f s0_0 s0_1 s0_2 s0_3 = some (r1, r2, r3, r4)) :
  Calls Tryd.prog 68 #[.pointer (some ⟨g, 0, none⟩)] w fun e w' => e = .returned (.tuple #[]) ∧ IsS88 w0 w' g r1 r2 r3 r4 ∧ Below w0.heap.size w0 w' ∧ KeepBut w w' g none := by
 have HI0 := Aside0.mk hI
 have HK := Aside0.mk (KeepBut.refl w g none)
 have HL := Aside0.mk hB.size
 clear hI
 have HW0 := Aside0.mk hB.size
 have HB := Aside0.mk hB
 clear hB
 have H : (if s0_3 = 0 then (some (s0_0, s0_1, s0_2, 2)) else (some (s0_0, s0_1, s0_2, s0_3))) = some (r1, r2, r3, r4) := h
 clear h
 by_cases c2 : s0_3 = 0
 ·rw [if_pos c2] at H
  have c2b0 : (s0_3 == 0) = true := beq_iff_eq.mpr c2
  have c2b1 : (s0_3 != 0) = false := bne_eq_false_iff_eq.mpr c2
  clear c2
  simp only [Option.some.injEq, Prod.mk.injEq] at H
  obtain ⟨rfl, rfl, rfl, rfl⟩ := H
  obtain ⟨HGz3, hgz3⟩ := HI0.out
  have hcz3_0 := cellS88_0 HGz3
  have hcz3_1 := cellS88_1 HGz3
  have hcz3_2 := cellS88_2 HGz3
  have hcz3_3 := cellS88_3 HGz3
  have hfz3_0 := blk_frozen HGz3 0
  have hfz3_1 := blk_frozen HGz3 1
  have hfz3_2 := blk_frozen HGz3 2
  have hfz3_3 := blk_frozen HGz3 3
  clear HGz3 hgz3
  go_enter Tryd.func68, Tryd.ntmps68
  go_wp2
  first | go_end0 | ((try simp only [Exit.inBlock, Exit.then]); refine bodyPost_ret (results_none rfl _ _ _) rfl ?_)
  exact ⟨by first | rfl | (simp [errW_none, errW_some] <;> rfl) | (simp [*, errW_none, errW_some] <;> rfl), by repeat (first | (with_reducible first | exact HI0.out | apply IsS88.alloc | apply IsS88.drewN | apply IsS88.drew | apply IsS88.set_0 | apply IsS88.set_1 | apply IsS88.set_2 | apply IsS88.set_3) | exact HI0.out), by repeat (first | (with_reducible first | exact HB.out | apply below_alloc | apply pw_below_drewN | apply below_drew1 | refine below_set ?_ (IsS88.ge HI0.out)) | exact HB.out), by repeat (first | (with_reducible first | exact HK.out | apply KeepBut.set_ | apply keep_drewN | apply keep_drew | apply keep_alloc) | exact HK.out)⟩
 ·rw [if_neg c2] at H
  have c2b0 : (s0_3 == 0) = false := beq_eq_false_iff_ne.mpr c2
  have c2b1 : (s0_3 != 0) = true := bne_iff_ne.mpr c2
  simp only [Option.some.injEq, Prod.mk.injEq] at H
  obtain ⟨rfl, rfl, rfl, rfl⟩ := H
  obtain ⟨HGz4, hgz4⟩ := HI0.out
  have hcz4_0 := cellS88_0 HGz4
  have hcz4_1 := cellS88_1 HGz4
  have hcz4_2 := cellS88_2 HGz4
  have hcz4_3 := cellS88_3 HGz4
  have hfz4_0 := blk_frozen HGz4 0
  have hfz4_1 := blk_frozen HGz4 1
  have hfz4_2 := blk_frozen HGz4 2
  have hfz4_3 := blk_frozen HGz4 3
  clear HGz4 hgz4
  go_enter Tryd.func68, Tryd.ntmps68
  go_wp2
  first | go_end0 | ((try simp only [Exit.inBlock, Exit.then]); refine bodyPost_ret (results_none rfl _ _ _) rfl ?_)
  exact ⟨by first | rfl | (simp [errW_none, errW_some] <;> rfl) | (simp [*, errW_none, errW_some] <;> rfl), by repeat (first | (with_reducible first | exact HI0.out | apply IsS88.alloc | apply IsS88.drewN | apply IsS88.drew | apply IsS88.set_0 | apply IsS88.set_1 | apply IsS88.set_2 | apply IsS88.set_3) | exact HI0.out), by repeat (first | (with_reducible first | exact HB.out | apply below_alloc | apply pw_below_drewN | apply below_drew1 | refine below_set ?_ (IsS88.ge HI0.out)) | exact HB.out), by repeat (first | (with_reducible first | exact HK.out | apply KeepBut.set_ | apply keep_drewN | apply keep_drew | apply keep_alloc) | exact HK.out)⟩
def encode_Reader_head.f (s0_0 : ByteArray) (s0_1 : Int) (s0_2 : Int) (s0_3 : Int) (a1 : Int) (a2 : Bool) (a3 : Int) : Option (ByteArray × Int × Int × Int) := if s0_3 = 0 then (if a2 = true then (if s0_1 ≥ (s0_0.size : Int) then ((encode_Reader_Fail.f s0_0 s0_1 s0_2 s0_3).bind fun bt320 => (some (bt320.1, bt320.2.1, bt320.2.2.1, bt320.2.2.2))) else (if 0 ≤ s0_1 then (if s0_1 < (s0_0.size : Int) then (if (bt s0_0 s0_1) = a1 then (some (s0_0, wrap64 (s0_1 + 1), wrap64 (s0_2 + a3), s0_3)) else ((encode_Reader_Fail.f s0_0 s0_1 s0_2 s0_3).bind fun bt324 => (some (bt324.1, bt324.2.1, bt324.2.2.1, bt324.2.2.2)))) else (none)) else (none))) else ((encode_Reader_Fail.f s0_0 s0_1 s0_2 s0_3).bind fun bt328 => (some (bt328.1, bt328.2.1, bt328.2.2.1, bt328.2.2.2)))) else (some (s0_0, s0_1, s0_2, s0_3))
set_option maxHeartbeats 8000000 in
set_option maxRecDepth 100000 in
theorem encode_Reader_head.calls (g : Nat) (s0_0 : ByteArray) (s0_1 : Int) (s0_2 : Int) (s0_3 : Int) (a1 : Int) (a2 : Bool) (a3 : Int) (r1 : ByteArray) (r2 : Int) (r3 : Int) (r4 : Int) (w0 w : World) (hI : IsS88 w0 w g s0_0 s0_1 s0_2 s0_3) (hB : Below w0.heap.size w0 w) (h : encode_Reader_head.f s0_0 s0_1 s0_2 s0_3 a1 a2 a3 = some (r1, r2, r3, r4)) :
  Calls Tryd.prog 56 #[.pointer (some ⟨g, 0, none⟩), .int .u8 a1, .bool a2, .int .i64 a3] w fun e w' => e = .returned (.tuple #[]) ∧ IsS88 w0 w' g r1 r2 r3 r4 ∧ Below w0.heap.size w0 w' ∧ KeepBut w w' g none := by
 have HI0 := Aside0.mk hI
 have HK := Aside0.mk (KeepBut.refl w g none)
 have HL := Aside0.mk hB.size
 clear hI
 have HW0 := Aside0.mk hB.size
 have HB := Aside0.mk hB
 clear hB
 have H : (if s0_3 = 0 then (if a2 = true then (if s0_1 ≥ (s0_0.size : Int) then ((encode_Reader_Fail.f s0_0 s0_1 s0_2 s0_3).bind fun bt320 => (some (bt320.1, bt320.2.1, bt320.2.2.1, bt320.2.2.2))) else (if 0 ≤ s0_1 then (if s0_1 < (s0_0.size : Int) then (if (bt s0_0 s0_1) = a1 then (some (s0_0, wrap64 (s0_1 + 1), wrap64 (s0_2 + a3), s0_3)) else ((encode_Reader_Fail.f s0_0 s0_1 s0_2 s0_3).bind fun bt324 => (some (bt324.1, bt324.2.1, bt324.2.2.1, bt324.2.2.2)))) else (none)) else (none))) else ((encode_Reader_Fail.f s0_0 s0_1 s0_2 s0_3).bind fun bt328 => (some (bt328.1, bt328.2.1, bt328.2.2.1, bt328.2.2.2)))) else (some (s0_0, s0_1, s0_2, s0_3))) = some (r1, r2, r3, r4) := h
 clear h
 by_cases c5 : s0_3 = 0
 ·rw [if_pos c5] at H
  have c5b0 : (s0_3 == 0) = true := beq_iff_eq.mpr c5
  have c5b1 : (s0_3 != 0) = false := bne_eq_false_iff_eq.mpr c5
  clear c5
  by_cases c6 : a2 = true
  ·subst c6
   have H1 : (if s0_1 ≥ (s0_0.size : Int) then ((encode_Reader_Fail.f s0_0 s0_1 s0_2 s0_3).bind fun bt320 => (some (bt320.1, bt320.2.1, bt320.2.2.1, bt320.2.2.2))) else (if 0 ≤ s0_1 then (if s0_1 < (s0_0.size : Int) then (if (bt s0_0 s0_1) = a1 then (some (s0_0, wrap64 (s0_1 + 1), wrap64 (s0_2 + a3), s0_3)) else ((encode_Reader_Fail.f s0_0 s0_1 s0_2 s0_3).bind fun bt324 => (some (bt324.1, bt324.2.1, bt324.2.2.1, bt324.2.2.2)))) else (none)) else (none))) = some (r1, r2, r3, r4) := by rw [if_pos rfl] at H; exact H
   clear H
   have H := H1
   clear H1
   by_cases c7 : s0_1 ≥ (s0_0.size : Int)
   ·rw [if_pos c7] at H
    have c7b0 : decide ((s0_0.size : Int) ≤ s0_1) = true := decide_eq_true c7
    clear c7
    replace H := Option.bind_eq_some_iff.mp H
    obtain ⟨⟨t320, t321, t322, t323⟩, A80, H⟩ := H
    replace H : (some (t320, t321, t322, t323)) = some (r1, r2, r3, r4) := H
    have A8 := Aside0.mk A80
    clear A80
    simp only [Option.some.injEq, Prod.mk.injEq] at H
    obtain ⟨rfl, rfl, rfl, rfl⟩ := H
    obtain ⟨HGz9, hgz9⟩ := HI0.out
    have hcz9_0 := cellS88_0 HGz9
    have hcz9_1 := cellS88_1 HGz9
    have hcz9_2 := cellS88_2 HGz9
    have hcz9_3 := cellS88_3 HGz9
    have hfz9_0 := blk_frozen HGz9 0
    have hfz9_1 := blk_frozen HGz9 1
    have hfz9_2 := blk_frozen HGz9 2
    have hfz9_3 := blk_frozen HGz9 3
    clear HGz9 hgz9
    go_enter Tryd.func56, Tryd.ntmps56
    go_wp2_with (first | (go_at_call 68; (with_reducible refine (encode_Reader_Fail.calls g s0_0 s0_1 s0_2 s0_3 t320 t321 t322 t323 w0 _ ?side1 ?side2 A8.out).mono ?_); (case side1 => repeat (first | (with_reducible first | exact HI0.out | apply IsS88.alloc | apply IsS88.drewN | apply IsS88.drew | apply IsS88.set_0 | apply IsS88.set_1 | apply IsS88.set_2 | apply IsS88.set_3) | exact HI0.out)); (case side2 => repeat (first | (with_reducible first | exact HB.out | apply below_alloc | apply pw_below_drewN | apply below_drew1 | refine below_set ?_ (IsS88.ge HI0.out)) | exact HB.out)); rintro e w10 ⟨rfl, hi, hb, hk⟩; have n0_ := Aside0.mk (KeepBut.trans (by repeat (first | (with_reducible first | exact HK.out | apply KeepBut.set_ | apply keep_drewN | apply keep_drew | apply keep_alloc) | exact HK.out)) hk (.inl rfl)); have n1_ := Aside0.mk (hb); have n2_ := Aside0.mk (hi); clear HK; clear HB; clear HI0; have HK := n0_; have HB := n1_; have HI0 := n2_; clear n0_ n1_ n2_; (try clear hb); (try clear hb2); (try clear hk); (try clear hi)))
    repeat (go_quiet (first | (go_at_call 68; (with_reducible refine (encode_Reader_Fail.calls g s0_0 s0_1 s0_2 s0_3 t320 t321 t322 t323 w0 _ ?side1 ?side2 A8.out).mono ?_); (case side1 => repeat (first | (with_reducible first | exact HI0.out | apply IsS88.alloc | apply IsS88.drewN | apply IsS88.drew | apply IsS88.set_0 | apply IsS88.set_1 | apply IsS88.set_2 | apply IsS88.set_3) | exact HI0.out)); (case side2 => repeat (first | (with_reducible first | exact HB.out | apply below_alloc | apply pw_below_drewN | apply below_drew1 | refine below_set ?_ (IsS88.ge HI0.out)) | exact HB.out)); rintro e w10 ⟨rfl, hi, hb, hk⟩; have n0_ := Aside0.mk (KeepBut.trans (by repeat (first | (with_reducible first | exact HK.out | apply KeepBut.set_ | apply keep_drewN | apply keep_drew | apply keep_alloc) | exact HK.out)) hk (.inl rfl)); have n1_ := Aside0.mk (hb); have n2_ := Aside0.mk (hi); clear HK; clear HB; clear HI0; have HK := n0_; have HB := n1_; have HI0 := n2_; clear n0_ n1_ n2_; (try clear hb); (try clear hb2); (try clear hk); (try clear hi))); try go_wp2_with (first | (go_at_call 68; (with_reducible refine (encode_Reader_Fail.calls g s0_0 s0_1 s0_2 s0_3 t320 t321 t322 t323 w0 _ ?side1 ?side2 A8.out).mono ?_); (case side1 => repeat (first | (with_reducible first | exact HI0.out | apply IsS88.alloc | apply IsS88.drewN | apply IsS88.drew | apply IsS88.set_0 | apply IsS88.set_1 | apply IsS88.set_2 | apply IsS88.set_3) | exact HI0.out)); (case side2 => repeat (first | (with_reducible first | exact HB.out | apply below_alloc | apply pw_below_drewN | apply below_drew1 | refine below_set ?_ (IsS88.ge HI0.out)) | exact HB.out)); rintro e w10 ⟨rfl, hi, hb, hk⟩; have n0_ := Aside0.mk (KeepBut.trans (by repeat (first | (with_reducible first | exact HK.out | apply KeepBut.set_ | apply keep_drewN | apply keep_drew | apply keep_alloc) | exact HK.out)) hk (.inl rfl)); have n1_ := Aside0.mk (hb); have n2_ := Aside0.mk (hi); clear HK; clear HB; clear HI0; have HK := n0_; have HB := n1_; have HI0 := n2_; clear n0_ n1_ n2_; (try clear hb); (try clear hb2); (try clear hk); (try clear hi))))
    first | go_end0 | ((try simp only [Exit.inBlock, Exit.then]); refine bodyPost_ret (results_none rfl _ _ _) rfl ?_)
    exact ⟨by first | rfl | (simp [errW_none, errW_some] <;> rfl) | (simp [*, errW_none, errW_some] <;> rfl), by repeat (first | (with_reducible first | exact HI0.out | apply IsS88.alloc | apply IsS88.drewN | apply IsS88.drew | apply IsS88.set_0 | apply IsS88.set_1 | apply IsS88.set_2 | apply IsS88.set_3) | exact HI0.out), by repeat (first | (with_reducible first | exact HB.out | apply below_alloc | apply pw_below_drewN | apply below_drew1 | refine below_set ?_ (IsS88.ge HI0.out)) | exact HB.out), by repeat (first | (with_reducible first | exact HK.out | apply KeepBut.set_ | apply keep_drewN | apply keep_drew | apply keep_alloc) | exact HK.out)⟩
   ·rw [if_neg c7] at H
    have c7b0 : decide ((s0_0.size : Int) ≤ s0_1) = false := decide_eq_false c7
    clear c7
    by_cases c11 : 0 ≤ s0_1
    ·rw [if_pos c11] at H
     have c11b0 : decide (0 ≤ s0_1) = true := decide_eq_true c11
     clear c11
     by_cases c12 : s0_1 < (s0_0.size : Int)
     ·rw [if_pos c12] at H
      have c12b0 : decide (s0_1 < (s0_0.size : Int)) = true := decide_eq_true c12
      clear c12
      by_cases c14 : (bt s0_0 s0_1) = a1
      ·rw [if_pos c14] at H
       have c14b0 : ((bt s0_0 s0_1) == a1) = true := beq_iff_eq.mpr c14
       have c14b1 : ((bt s0_0 s0_1) != a1) = false := bne_eq_false_iff_eq.mpr c14
       clear c14
       simp only [Option.some.injEq, Prod.mk.injEq] at H
       obtain ⟨rfl, rfl, rfl, rfl⟩ := H
       obtain ⟨HGz15, hgz15⟩ := HI0.out
       have hcz15_0 := cellS88_0 HGz15
       have hcz15_1 := cellS88_1 HGz15
       have hcz15_2 := cellS88_2 HGz15
       have hcz15_3 := cellS88_3 HGz15
       have hfz15_0 := blk_frozen HGz15 0
       have hfz15_1 := blk_frozen HGz15 1
       have hfz15_2 := blk_frozen HGz15 2
       have hfz15_3 := blk_frozen HGz15 3
       clear HGz15 hgz15
       have p13 : 0 ≤ (s0_1 : Int) := of_decide_eq_true (by first | (with_reducible assumption) | assumption)
       have q13 : s0_1 < (s0_0.size : Int) := of_decide_eq_true (by first | (with_reducible assumption) | assumption)
       have hx13 := bt_at s0_0 s0_1
       replace p13 := eq_true p13
       replace q13 := eq_true q13
       go_enter Tryd.func56, Tryd.ntmps56
       go_wp2
       repeat (go_quiet (fail); try go_wp2)
       first | go_end0 | ((try simp only [Exit.inBlock, Exit.then]); refine bodyPost_ret (results_none rfl _ _ _) rfl ?_)
       exact ⟨by first | rfl | (simp [errW_none, errW_some] <;> rfl) | (simp [*, errW_none, errW_some] <;> rfl), by repeat (first | (with_reducible first | exact HI0.out | apply IsS88.alloc | apply IsS88.drewN | apply IsS88.drew | apply IsS88.set_0 | apply IsS88.set_1 | apply IsS88.set_2 | apply IsS88.set_3) | exact HI0.out), by repeat (first | (with_reducible first | exact HB.out | apply below_alloc | apply pw_below_drewN | apply below_drew1 | refine below_set ?_ (IsS88.ge HI0.out)) | exact HB.out), by repeat (first | (with_reducible first | exact HK.out | apply KeepBut.set_ | apply keep_drewN | apply keep_drew | apply keep_alloc) | exact HK.out)⟩
      ·rw [if_neg c14] at H
       have c14b0 : ((bt s0_0 s0_1) == a1) = false := beq_eq_false_iff_ne.mpr c14
       have c14b1 : ((bt s0_0 s0_1) != a1) = true := bne_iff_ne.mpr c14
       replace H := Option.bind_eq_some_iff.mp H
       obtain ⟨⟨t324, t325, t326, t327⟩, A160, H⟩ := H
       replace H : (some (t324, t325, t326, t327)) = some (r1, r2, r3, r4) := H
       have A16 := Aside0.mk A160
       clear A160
       simp only [Option.some.injEq, Prod.mk.injEq] at H
       obtain ⟨rfl, rfl, rfl, rfl⟩ := H
       obtain ⟨HGz17, hgz17⟩ := HI0.out
       have hcz17_0 := cellS88_0 HGz17
       have hcz17_1 := cellS88_1 HGz17
       have hcz17_2 := cellS88_2 HGz17
       have hcz17_3 := cellS88_3 HGz17
       have hfz17_0 := blk_frozen HGz17 0
       have hfz17_1 := blk_frozen HGz17 1
       have hfz17_2 := blk_frozen HGz17 2
       have hfz17_3 := blk_frozen HGz17 3
       clear HGz17 hgz17
       have p13 : 0 ≤ (s0_1 : Int) := of_decide_eq_true (by first | (with_reducible assumption) | assumption)
       have q13 : s0_1 < (s0_0.size : Int) := of_decide_eq_true (by first | (with_reducible assumption) | assumption)
       have hx13 := bt_at s0_0 s0_1
       replace p13 := eq_true p13
       replace q13 := eq_true q13
       go_enter Tryd.func56, Tryd.ntmps56
       go_wp2_with (first | (go_at_call 68; (with_reducible refine (encode_Reader_Fail.calls g s0_0 s0_1 s0_2 s0_3 t324 t325 t326 t327 w0 _ ?side1 ?side2 A16.out).mono ?_); (case side1 => repeat (first | (with_reducible first | exact HI0.out | apply IsS88.alloc | apply IsS88.drewN | apply IsS88.drew | apply IsS88.set_0 | apply IsS88.set_1 | apply IsS88.set_2 | apply IsS88.set_3) | exact HI0.out)); (case side2 => repeat (first | (with_reducible first | exact HB.out | apply below_alloc | apply pw_below_drewN | apply below_drew1 | refine below_set ?_ (IsS88.ge HI0.out)) | exact HB.out)); rintro e w18 ⟨rfl, hi, hb, hk⟩; have n0_ := Aside0.mk (KeepBut.trans (by repeat (first | (with_reducible first | exact HK.out | apply KeepBut.set_ | apply keep_drewN | apply keep_drew | apply keep_alloc) | exact HK.out)) hk (.inl rfl)); have n1_ := Aside0.mk (hb); have n2_ := Aside0.mk (hi); clear HK; clear HB; clear HI0; have HK := n0_; have HB := n1_; have HI0 := n2_; clear n0_ n1_ n2_; (try clear hb); (try clear hb2); (try clear hk); (try clear hi)))
       repeat (go_quiet (first | (go_at_call 68; (with_reducible refine (encode_Reader_Fail.calls g s0_0 s0_1 s0_2 s0_3 t324 t325 t326 t327 w0 _ ?side1 ?side2 A16.out).mono ?_); (case side1 => repeat (first | (with_reducible first | exact HI0.out | apply IsS88.alloc | apply IsS88.drewN | apply IsS88.drew | apply IsS88.set_0 | apply IsS88.set_1 | apply IsS88.set_2 | apply IsS88.set_3) | exact HI0.out)); (case side2 => repeat (first | (with_reducible first | exact HB.out | apply below_alloc | apply pw_below_drewN | apply below_drew1 | refine below_set ?_ (IsS88.ge HI0.out)) | exact HB.out)); rintro e w18 ⟨rfl, hi, hb, hk⟩; have n0_ := Aside0.mk (KeepBut.trans (by repeat (first | (with_reducible first | exact HK.out | apply KeepBut.set_ | apply keep_drewN | apply keep_drew | apply keep_alloc) | exact HK.out)) hk (.inl rfl)); have n1_ := Aside0.mk (hb); have n2_ := Aside0.mk (hi); clear HK; clear HB; clear HI0; have HK := n0_; have HB := n1_; have HI0 := n2_; clear n0_ n1_ n2_; (try clear hb); (try clear hb2); (try clear hk); (try clear hi))); try go_wp2_with (first | (go_at_call 68; (with_reducible refine (encode_Reader_Fail.calls g s0_0 s0_1 s0_2 s0_3 t324 t325 t326 t327 w0 _ ?side1 ?side2 A16.out).mono ?_); (case side1 => repeat (first | (with_reducible first | exact HI0.out | apply IsS88.alloc | apply IsS88.drewN | apply IsS88.drew | apply IsS88.set_0 | apply IsS88.set_1 | apply IsS88.set_2 | apply IsS88.set_3) | exact HI0.out)); (case side2 => repeat (first | (with_reducible first | exact HB.out | apply below_alloc | apply pw_below_drewN | apply below_drew1 | refine below_set ?_ (IsS88.ge HI0.out)) | exact HB.out)); rintro e w18 ⟨rfl, hi, hb, hk⟩; have n0_ := Aside0.mk (KeepBut.trans (by repeat (first | (with_reducible first | exact HK.out | apply KeepBut.set_ | apply keep_drewN | apply keep_drew | apply keep_alloc) | exact HK.out)) hk (.inl rfl)); have n1_ := Aside0.mk (hb); have n2_ := Aside0.mk (hi); clear HK; clear HB; clear HI0; have HK := n0_; have HB := n1_; have HI0 := n2_; clear n0_ n1_ n2_; (try clear hb); (try clear hb2); (try clear hk); (try clear hi))))
       first | go_end0 | ((try simp only [Exit.inBlock, Exit.then]); refine bodyPost_ret (results_none rfl _ _ _) rfl ?_)
       exact ⟨by first | rfl | (simp [errW_none, errW_some] <;> rfl) | (simp [*, errW_none, errW_some] <;> rfl), by repeat (first | (with_reducible first | exact HI0.out | apply IsS88.alloc | apply IsS88.drewN | apply IsS88.drew | apply IsS88.set_0 | apply IsS88.set_1 | apply IsS88.set_2 | apply IsS88.set_3) | exact HI0.out), by repeat (first | (with_reducible first | exact HB.out | apply below_alloc | apply pw_below_drewN | apply below_drew1 | refine below_set ?_ (IsS88.ge HI0.out)) | exact HB.out), by repeat (first | (with_reducible first | exact HK.out | apply KeepBut.set_ | apply keep_drewN | apply keep_drew | apply keep_alloc) | exact HK.out)⟩
     ·rw [if_neg c12] at H
      exact absurd H (by simp)
    ·rw [if_neg c11] at H
     exact absurd H (by simp)
  ·replace c6 := Bool.eq_false_iff.mpr c6
   subst c6
   have H1 : ((encode_Reader_Fail.f s0_0 s0_1 s0_2 s0_3).bind fun bt328 => (some (bt328.1, bt328.2.1, bt328.2.2.1, bt328.2.2.2))) = some (r1, r2, r3, r4) := by rw [if_neg (show ¬ (false = true) by decide)] at H; exact H
   clear H
   have H := H1
   clear H1
   replace H := Option.bind_eq_some_iff.mp H
   obtain ⟨⟨t328, t329, t330, t331⟩, A190, H⟩ := H
   replace H : (some (t328, t329, t330, t331)) = some (r1, r2, r3, r4) := H
   have A19 := Aside0.mk A190
   clear A190
   simp only [Option.some.injEq, Prod.mk.injEq] at H
   obtain ⟨rfl, rfl, rfl, rfl⟩ := H
   obtain ⟨HGz20, hgz20⟩ := HI0.out
   have hcz20_0 := cellS88_0 HGz20
   have hcz20_1 := cellS88_1 HGz20
   have hcz20_2 := cellS88_2 HGz20
   have hcz20_3 := cellS88_3 HGz20
   have hfz20_0 := blk_frozen HGz20 0
   have hfz20_1 := blk_frozen HGz20 1
   have hfz20_2 := blk_frozen HGz20 2
   have hfz20_3 := blk_frozen HGz20 3
   clear HGz20 hgz20
   go_enter Tryd.func56, Tryd.ntmps56
   go_wp2_with (first | (go_at_call 68; (with_reducible refine (encode_Reader_Fail.calls g s0_0 s0_1 s0_2 s0_3 t328 t329 t330 t331 w0 _ ?side1 ?side2 A19.out).mono ?_); (case side1 => repeat (first | (with_reducible first | exact HI0.out | apply IsS88.alloc | apply IsS88.drewN | apply IsS88.drew | apply IsS88.set_0 | apply IsS88.set_1 | apply IsS88.set_2 | apply IsS88.set_3) | exact HI0.out)); (case side2 => repeat (first | (with_reducible first | exact HB.out | apply below_alloc | apply pw_below_drewN | apply below_drew1 | refine below_set ?_ (IsS88.ge HI0.out)) | exact HB.out)); rintro e w21 ⟨rfl, hi, hb, hk⟩; have n0_ := Aside0.mk (KeepBut.trans (by repeat (first | (with_reducible first | exact HK.out | apply KeepBut.set_ | apply keep_drewN | apply keep_drew | apply keep_alloc) | exact HK.out)) hk (.inl rfl)); have n1_ := Aside0.mk (hb); have n2_ := Aside0.mk (hi); clear HK; clear HB; clear HI0; have HK := n0_; have HB := n1_; have HI0 := n2_; clear n0_ n1_ n2_; (try clear hb); (try clear hb2); (try clear hk); (try clear hi)))
   repeat (go_quiet (first | (go_at_call 68; (with_reducible refine (encode_Reader_Fail.calls g s0_0 s0_1 s0_2 s0_3 t328 t329 t330 t331 w0 _ ?side1 ?side2 A19.out).mono ?_); (case side1 => repeat (first | (with_reducible first | exact HI0.out | apply IsS88.alloc | apply IsS88.drewN | apply IsS88.drew | apply IsS88.set_0 | apply IsS88.set_1 | apply IsS88.set_2 | apply IsS88.set_3) | exact HI0.out)); (case side2 => repeat (first | (with_reducible first | exact HB.out | apply below_alloc | apply pw_below_drewN | apply below_drew1 | refine below_set ?_ (IsS88.ge HI0.out)) | exact HB.out)); rintro e w21 ⟨rfl, hi, hb, hk⟩; have n0_ := Aside0.mk (KeepBut.trans (by repeat (first | (with_reducible first | exact HK.out | apply KeepBut.set_ | apply keep_drewN | apply keep_drew | apply keep_alloc) | exact HK.out)) hk (.inl rfl)); have n1_ := Aside0.mk (hb); have n2_ := Aside0.mk (hi); clear HK; clear HB; clear HI0; have HK := n0_; have HB := n1_; have HI0 := n2_; clear n0_ n1_ n2_; (try clear hb); (try clear hb2); (try clear hk); (try clear hi))); try go_wp2_with (first | (go_at_call 68; (with_reducible refine (encode_Reader_Fail.calls g s0_0 s0_1 s0_2 s0_3 t328 t329 t330 t331 w0 _ ?side1 ?side2 A19.out).mono ?_); (case side1 => repeat (first | (with_reducible first | exact HI0.out | apply IsS88.alloc | apply IsS88.drewN | apply IsS88.drew | apply IsS88.set_0 | apply IsS88.set_1 | apply IsS88.set_2 | apply IsS88.set_3) | exact HI0.out)); (case side2 => repeat (first | (with_reducible first | exact HB.out | apply below_alloc | apply pw_below_drewN | apply below_drew1 | refine below_set ?_ (IsS88.ge HI0.out)) | exact HB.out)); rintro e w21 ⟨rfl, hi, hb, hk⟩; have n0_ := Aside0.mk (KeepBut.trans (by repeat (first | (with_reducible first | exact HK.out | apply KeepBut.set_ | apply keep_drewN | apply keep_drew | apply keep_alloc) | exact HK.out)) hk (.inl rfl)); have n1_ := Aside0.mk (hb); have n2_ := Aside0.mk (hi); clear HK; clear HB; clear HI0; have HK := n0_; have HB := n1_; have HI0 := n2_; clear n0_ n1_ n2_; (try clear hb); (try clear hb2); (try clear hk); (try clear hi))))
   first | go_end0 | ((try simp only [Exit.inBlock, Exit.then]); refine bodyPost_ret (results_none rfl _ _ _) rfl ?_)
   exact ⟨by first | rfl | (simp [errW_none, errW_some] <;> rfl) | (simp [*, errW_none, errW_some] <;> rfl), by repeat (first | (with_reducible first | exact HI0.out | apply IsS88.alloc | apply IsS88.drewN | apply IsS88.drew | apply IsS88.set_0 | apply IsS88.set_1 | apply IsS88.set_2 | apply IsS88.set_3) | exact HI0.out), by repeat (first | (with_reducible first | exact HB.out | apply below_alloc | apply pw_below_drewN | apply below_drew1 | refine below_set ?_ (IsS88.ge HI0.out)) | exact HB.out), by repeat (first | (with_reducible first | exact HK.out | apply KeepBut.set_ | apply keep_drewN | apply keep_drew | apply keep_alloc) | exact HK.out)⟩
 ·rw [if_neg c5] at H
  have c5b0 : (s0_3 == 0) = false := beq_eq_false_iff_ne.mpr c5
  have c5b1 : (s0_3 != 0) = true := bne_iff_ne.mpr c5
  simp only [Option.some.injEq, Prod.mk.injEq] at H
  obtain ⟨rfl, rfl, rfl, rfl⟩ := H
  obtain ⟨HGz22, hgz22⟩ := HI0.out
  have hcz22_0 := cellS88_0 HGz22
  have hcz22_1 := cellS88_1 HGz22
  have hcz22_2 := cellS88_2 HGz22
  have hcz22_3 := cellS88_3 HGz22
  have hfz22_0 := blk_frozen HGz22 0
  have hfz22_1 := blk_frozen HGz22 1
  have hfz22_2 := blk_frozen HGz22 2
  have hfz22_3 := blk_frozen HGz22 3
  clear HGz22 hgz22
  go_enter Tryd.func56, Tryd.ntmps56
  go_wp2
  repeat (go_quiet (fail); try go_wp2)
  first | go_end0 | ((try simp only [Exit.inBlock, Exit.then]); refine bodyPost_ret (results_none rfl _ _ _) rfl ?_)
  exact ⟨by first | rfl | (simp [errW_none, errW_some] <;> rfl) | (simp [*, errW_none, errW_some] <;> rfl), by repeat (first | (with_reducible first | exact HI0.out | apply IsS88.alloc | apply IsS88.drewN | apply IsS88.drew | apply IsS88.set_0 | apply IsS88.set_1 | apply IsS88.set_2 | apply IsS88.set_3) | exact HI0.out), by repeat (first | (with_reducible first | exact HB.out | apply below_alloc | apply pw_below_drewN | apply below_drew1 | refine below_set ?_ (IsS88.ge HI0.out)) | exact HB.out), by repeat (first | (with_reducible first | exact HK.out | apply KeepBut.set_ | apply keep_drewN | apply keep_drew | apply keep_alloc) | exact HK.out)⟩
def encode_Reader_Open.f (s0_0 : ByteArray) (s0_1 : Int) (s0_2 : Int) (s0_3 : Int) : Option (ByteArray × Int × Int × Int) := (encode_Reader_head.f s0_0 s0_1 s0_2 s0_3 108 (decide (s0_2 < 32)) 1).bind fun bt332 => (some (bt332.1, bt332.2.1, bt332.2.2.1, bt332.2.2.2))
set_option maxHeartbeats 8000000 in
set_option maxRecDepth 100000 in
theorem encode_Reader_Open.calls (g : Nat) (s0_0 : ByteArray) (s0_1 : Int) (s0_2 : Int) (s0_3 : Int) (r1 : ByteArray) (r2 : Int) (r3 : Int) (r4 : Int) (w0 w : World) (hI : IsS88 w0 w g s0_0 s0_1 s0_2 s0_3) (hB : Below w0.heap.size w0 w) (h : encode_Reader_Open.f s0_0 s0_1 s0_2 s0_3 = some (r1, r2, r3, r4)) :
  Calls Tryd.prog 36 #[.pointer (some ⟨g, 0, none⟩)] w fun e w' => e = .returned (.tuple #[]) ∧ IsS88 w0 w' g r1 r2 r3 r4 ∧ Below w0.heap.size w0 w' ∧ KeepBut w w' g none := by
 have HI0 := Aside0.mk hI
 have HK := Aside0.mk (KeepBut.refl w g none)
 have HL := Aside0.mk hB.size
 clear hI
 have HW0 := Aside0.mk hB.size
 have HB := Aside0.mk hB
 clear hB
 have H : ((encode_Reader_head.f s0_0 s0_1 s0_2 s0_3 108 (decide (s0_2 < 32)) 1).bind fun bt332 => (some (bt332.1, bt332.2.1, bt332.2.2.1, bt332.2.2.2))) = some (r1, r2, r3, r4) := h
 clear h
 replace H := Option.bind_eq_some_iff.mp H
 obtain ⟨⟨t332, t333, t334, t335⟩, A20, H⟩ := H
 replace H : (some (t332, t333, t334, t335)) = some (r1, r2, r3, r4) := H
 have A2 := Aside0.mk A20
 clear A20
 simp only [Option.some.injEq, Prod.mk.injEq] at H
 obtain ⟨rfl, rfl, rfl, rfl⟩ := H
 obtain ⟨HGz3, hgz3⟩ := HI0.out
 have hcz3_0 := cellS88_0 HGz3
 have hcz3_1 := cellS88_1 HGz3
 have hcz3_2 := cellS88_2 HGz3
 have hcz3_3 := cellS88_3 HGz3
 have hfz3_0 := blk_frozen HGz3 0
 have hfz3_1 := blk_frozen HGz3 1
 have hfz3_2 := blk_frozen HGz3 2
 have hfz3_3 := blk_frozen HGz3 3
 clear HGz3 hgz3
 go_enter Tryd.func36, Tryd.ntmps36
 go_wp2_with (first | ((with_reducible refine gate_callee (f := 56) rfl ?_); refine goesL_ (some 8) rfl rfl Tryd.func56 (by kernel_rfl) rfl #[.pointer (some ⟨g, 0, none⟩), .int .u8 108, .bool (decide (s0_2 < 32)), .int .i64 1] rfl (by (try simp only [List.map_toArray, List.map_cons, List.map_nil]); first | done | rfl | (simp only [List.length_drop, List.length_take]; rfl)) ?_; (with_reducible refine (encode_Reader_head.calls g s0_0 s0_1 s0_2 s0_3 108 (decide (s0_2 < 32)) 1 t332 t333 t334 t335 w0 _ ?side1 ?side2 A2.out).mono ?_); (case side1 => repeat (first | (with_reducible first | exact HI0.out | apply IsS88.alloc | apply IsS88.drewN | apply IsS88.drew | apply IsS88.set_0 | apply IsS88.set_1 | apply IsS88.set_2 | apply IsS88.set_3) | exact HI0.out)); (case side2 => repeat (first | (with_reducible first | exact HB.out | apply below_alloc | apply pw_below_drewN | apply below_drew1 | refine below_set ?_ (IsS88.ge HI0.out)) | exact HB.out)); rintro e w4 ⟨rfl, hi, hb, hk⟩; refine ⟨_, rfl, ?_⟩; have n0_ := Aside0.mk (KeepBut.trans (by repeat (first | (with_reducible first | exact HK.out | apply KeepBut.set_ | apply keep_drewN | apply keep_drew | apply keep_alloc) | exact HK.out)) hk (.inl rfl)); have n1_ := Aside0.mk (hb); have n2_ := Aside0.mk (hi); clear HK; clear HB; clear HI0; have HK := n0_; have HB := n1_; have HI0 := n2_; clear n0_ n1_ n2_; (try clear hb); (try clear hb2); (try clear hk); (try clear hi)))
 first | go_end0 | ((try simp only [Exit.inBlock, Exit.then]); refine bodyPost_ret (results_none rfl _ _ _) rfl ?_)
 exact ⟨by first | rfl | (simp [errW_none, errW_some] <;> rfl) | (simp [*, errW_none, errW_some] <;> rfl), by repeat (first | (with_reducible first | exact HI0.out | apply IsS88.alloc | apply IsS88.drewN | apply IsS88.drew | apply IsS88.set_0 | apply IsS88.set_1 | apply IsS88.set_2 | apply IsS88.set_3) | exact HI0.out), by repeat (first | (with_reducible first | exact HB.out | apply below_alloc | apply pw_below_drewN | apply below_drew1 | refine below_set ?_ (IsS88.ge HI0.out)) | exact HB.out), by repeat (first | (with_reducible first | exact HK.out | apply KeepBut.set_ | apply keep_drewN | apply keep_drew | apply keep_alloc) | exact HK.out)⟩
end Go.Proofs.YtfpopmojlmpopaaDoor.G

end
section
namespace Go.Proofs.YtfpopmojlmpopaaDoor.G
open Go.RowKit Go.Proofs.YtfpopmojlmpopaaDoorW.PrintWords Go.Proofs.YtfpopmojlmpopaaDoorW.PrintLast Go.Proofs.YtfpopmojlmpopaaDoorW.PrintMore
attribute [local go_sem] max2_int min2_int max_two min_two max_three min_three max_four min_four
set_option linter.unusedVariables false
set_option linter.unusedSimpArgs false
def encode_Reader_More.f (s0_0 : ByteArray) (s0_1 : Int) (s0_2 : Int) (s0_3 : Int) : Option (Bool × ByteArray × Int × Int × Int) := if s0_3 = 0 then (if s0_1 < (s0_0.size : Int) then (if s0_2 = 0 then (some (true, s0_0, s0_1, s0_2, s0_3)) else (if 0 ≤ s0_1 then (some (((bt s0_0 s0_1) != 101), s0_0, s0_1, s0_2, s0_3)) else (none))) else (some (false, s0_0, s0_1, s0_2, s0_3))) else (some (false, s0_0, s0_1, s0_2, s0_3))
set_option maxHeartbeats 8000000 in
set_option maxRecDepth 100000 in
theorem encode_Reader_More.calls (g : Nat) (s0_0 : ByteArray) (s0_1 : Int) (s0_2 : Int) (s0_3 : Int) (r1 : Bool) (r2 : ByteArray) (r3 : Int) (r4 : Int) (r5 : Int) (w0 w : World) (hI : IsS88 w0 w g s0_0 s0_1 s0_2 s0_3) (hB : Below w0.heap.size w0 w) (h : encode_Reader_More.f s0_0 s0_1 s0_2 s0_3 = some (r1, r2, r3, r4, r5)) :
  Calls Tryd.prog 39 #[.pointer (some ⟨g, 0, none⟩)] w fun e w' => e = .returned (.bool r1) ∧ IsS88 w0 w' g r2 r3 r4 r5 ∧ Below w0.heap.size w0 w' ∧ KeepBut w w' g none := by
 have HI0 := Aside0.mk hI
 have HK := Aside0.mk (KeepBut.refl w g none)
 have HL := Aside0.mk hB.size
 clear hI
 have HW0 := Aside0.mk hB.size
 have HB := Aside0.mk hB
 clear hB
 have H : (if s0_3 = 0 then (if s0_1 < (s0_0.size : Int) then (if s0_2 = 0 then (some (true, s0_0, s0_1, s0_2, s0_3)) else (if 0 ≤ s0_1 then (some (((bt s0_0 s0_1) != 101), s0_0, s0_1, s0_2, s0_3)) else (none))) else (some (false, s0_0, s0_1, s0_2, s0_3))) else (some (false, s0_0, s0_1, s0_2, s0_3))) = some (r1, r2, r3, r4, r5) := h
 clear h
 by_cases c2 : s0_3 = 0
 ·rw [if_pos c2] at H
  have c2b0 : (s0_3 == 0) = true := beq_iff_eq.mpr c2
  have c2b1 : (s0_3 != 0) = false := bne_eq_false_iff_eq.mpr c2
  clear c2
  by_cases c3 : s0_1 < (s0_0.size : Int)
  ·rw [if_pos c3] at H
   have c3b0 : decide (s0_1 < (s0_0.size : Int)) = true := decide_eq_true c3
   clear c3
   by_cases c4 : s0_2 = 0
   ·rw [if_pos c4] at H
    have c4b0 : (s0_2 == 0) = true := beq_iff_eq.mpr c4
    have c4b1 : (s0_2 != 0) = false := bne_eq_false_iff_eq.mpr c4
    clear c4
    simp only [Option.some.injEq, Prod.mk.injEq] at H
    obtain ⟨rfl, rfl, rfl, rfl, rfl⟩ := H
    obtain ⟨HGz5, hgz5⟩ := HI0.out
    have hcz5_0 := cellS88_0 HGz5
    have hcz5_1 := cellS88_1 HGz5
    have hcz5_2 := cellS88_2 HGz5
    have hcz5_3 := cellS88_3 HGz5
    have hfz5_0 := blk_frozen HGz5 0
    have hfz5_1 := blk_frozen HGz5 1
    have hfz5_2 := blk_frozen HGz5 2
    have hfz5_3 := blk_frozen HGz5 3
    clear HGz5 hgz5
    go_enter Tryd.func39, Tryd.ntmps39
    go_wp2
    repeat (go_quiet (fail); try go_wp2)
    go_ret
    exact ⟨by first | rfl | (simp [errW_none, errW_some] <;> rfl) | (simp [*, errW_none, errW_some] <;> rfl), by repeat (first | (with_reducible first | exact HI0.out | apply IsS88.alloc | apply IsS88.drewN | apply IsS88.drew | apply IsS88.set_0 | apply IsS88.set_1 | apply IsS88.set_2 | apply IsS88.set_3) | exact HI0.out), by repeat (first | (with_reducible first | exact HB.out | apply below_alloc | apply pw_below_drewN | apply below_drew1 | refine below_set ?_ (IsS88.ge HI0.out)) | exact HB.out), by repeat (first | (with_reducible first | exact HK.out | apply KeepBut.set_ | apply keep_drewN | apply keep_drew | apply keep_alloc) | exact HK.out)⟩
   ·rw [if_neg c4] at H
    have c4b0 : (s0_2 == 0) = false := beq_eq_false_iff_ne.mpr c4
    have c4b1 : (s0_2 != 0) = true := bne_iff_ne.mpr c4
    by_cases c6 : 0 ≤ s0_1
    ·rw [if_pos c6] at H
     have c6b0 : decide (0 ≤ s0_1) = true := decide_eq_true c6
     clear c6
     simp only [Option.some.injEq, Prod.mk.injEq] at H
     obtain ⟨rfl, rfl, rfl, rfl, rfl⟩ := H
     obtain ⟨HGz8, hgz8⟩ := HI0.out
     have hcz8_0 := cellS88_0 HGz8
     have hcz8_1 := cellS88_1 HGz8
     have hcz8_2 := cellS88_2 HGz8
     have hcz8_3 := cellS88_3 HGz8
     have hfz8_0 := blk_frozen HGz8 0
     have hfz8_1 := blk_frozen HGz8 1
     have hfz8_2 := blk_frozen HGz8 2
     have hfz8_3 := blk_frozen HGz8 3
     clear HGz8 hgz8
     have p7 : 0 ≤ (s0_1 : Int) := of_decide_eq_true (by first | (with_reducible assumption) | assumption)
     have q7 : s0_1 < (s0_0.size : Int) := of_decide_eq_true (by first | (with_reducible assumption) | assumption)
     have hx7 := bt_at s0_0 s0_1
     replace p7 := eq_true p7
     replace q7 := eq_true q7
     go_enter Tryd.func39, Tryd.ntmps39
     go_wp2
     repeat (go_quiet (fail); try go_wp2)
     go_ret
     exact ⟨by first | rfl | (simp [errW_none, errW_some] <;> rfl) | (simp [*, errW_none, errW_some] <;> rfl), by repeat (first | (with_reducible first | exact HI0.out | apply IsS88.alloc | apply IsS88.drewN | apply IsS88.drew | apply IsS88.set_0 | apply IsS88.set_1 | apply IsS88.set_2 | apply IsS88.set_3) | exact HI0.out), by repeat (first | (with_reducible first | exact HB.out | apply below_alloc | apply pw_below_drewN | apply below_drew1 | refine below_set ?_ (IsS88.ge HI0.out)) | exact HB.out), by repeat (first | (with_reducible first | exact HK.out | apply KeepBut.set_ | apply keep_drewN | apply keep_drew | apply keep_alloc) | exact HK.out)⟩
    ·rw [if_neg c6] at H
     exact absurd H (by simp)
  ·rw [if_neg c3] at H
   have c3b0 : decide (s0_1 < (s0_0.size : Int)) = false := decide_eq_false c3
   clear c3
   simp only [Option.some.injEq, Prod.mk.injEq] at H
   obtain ⟨rfl, rfl, rfl, rfl, rfl⟩ := H
   obtain ⟨HGz9, hgz9⟩ := HI0.out
   have hcz9_0 := cellS88_0 HGz9
   have hcz9_1 := cellS88_1 HGz9
   have hcz9_2 := cellS88_2 HGz9
   have hcz9_3 := cellS88_3 HGz9
   have hfz9_0 := blk_frozen HGz9 0
   have hfz9_1 := blk_frozen HGz9 1
   have hfz9_2 := blk_frozen HGz9 2
   have hfz9_3 := blk_frozen HGz9 3
   clear HGz9 hgz9
   go_enter Tryd.func39, Tryd.ntmps39
   go_wp2
   repeat (go_quiet (fail); try go_wp2)
   go_ret
   exact ⟨by first | rfl | (simp [errW_none, errW_some] <;> rfl) | (simp [*, errW_none, errW_some] <;> rfl), by repeat (first | (with_reducible first | exact HI0.out | apply IsS88.alloc | apply IsS88.drewN | apply IsS88.drew | apply IsS88.set_0 | apply IsS88.set_1 | apply IsS88.set_2 | apply IsS88.set_3) | exact HI0.out), by repeat (first | (with_reducible first | exact HB.out | apply below_alloc | apply pw_below_drewN | apply below_drew1 | refine below_set ?_ (IsS88.ge HI0.out)) | exact HB.out), by repeat (first | (with_reducible first | exact HK.out | apply KeepBut.set_ | apply keep_drewN | apply keep_drew | apply keep_alloc) | exact HK.out)⟩
 ·rw [if_neg c2] at H
  have c2b0 : (s0_3 == 0) = false := beq_eq_false_iff_ne.mpr c2
  have c2b1 : (s0_3 != 0) = true := bne_iff_ne.mpr c2
  simp only [Option.some.injEq, Prod.mk.injEq] at H
  obtain ⟨rfl, rfl, rfl, rfl, rfl⟩ := H
  obtain ⟨HGz10, hgz10⟩ := HI0.out
  have hcz10_0 := cellS88_0 HGz10
  have hcz10_1 := cellS88_1 HGz10
  have hcz10_2 := cellS88_2 HGz10
  have hcz10_3 := cellS88_3 HGz10
  have hfz10_0 := blk_frozen HGz10 0
  have hfz10_1 := blk_frozen HGz10 1
  have hfz10_2 := blk_frozen HGz10 2
  have hfz10_3 := blk_frozen HGz10 3
  clear HGz10 hgz10
  go_enter Tryd.func39, Tryd.ntmps39
  go_wp2
  repeat (go_quiet (fail); try go_wp2)
  go_ret
  exact ⟨by first | rfl | (simp [errW_none, errW_some] <;> rfl) | (simp [*, errW_none, errW_some] <;> rfl), by repeat (first | (with_reducible first | exact HI0.out | apply IsS88.alloc | apply IsS88.drewN | apply IsS88.drew | apply IsS88.set_0 | apply IsS88.set_1 | apply IsS88.set_2 | apply IsS88.set_3) | exact HI0.out), by repeat (first | (with_reducible first | exact HB.out | apply below_alloc | apply pw_below_drewN | apply below_drew1 | refine below_set ?_ (IsS88.ge HI0.out)) | exact HB.out), by repeat (first | (with_reducible first | exact HK.out | apply KeepBut.set_ | apply keep_drewN | apply keep_drew | apply keep_alloc) | exact HK.out)⟩
def encode_Reader_Err.f (s0_0 : ByteArray) (s0_1 : Int) (s0_2 : Int) (s0_3 : Int) : Option (Int × ByteArray × Int × Int × Int) := some (s0_3, s0_0, s0_1, s0_2, s0_3)
set_option maxHeartbeats 8000000 in
set_option maxRecDepth 100000 in
theorem encode_Reader_Err.calls (g : Nat) (s0_0 : ByteArray) (s0_1 : Int) (s0_2 : Int) (s0_3 : Int) (r1 : Int) (r2 : ByteArray) (r3 : Int) (r4 : Int) (r5 : Int) (w0 w : World) (hI : IsS88 w0 w g s0_0 s0_1 s0_2 s0_3) (hB : Below w0.heap.size w0 w) (h : encode_Reader_Err.f s0_0 s0_1 s0_2 s0_3 = some (r1, r2, r3, r4, r5)) :
  Calls Tryd.prog 40 #[.pointer (some ⟨g, 0, none⟩)] w fun e w' => e = .returned (.int .i64 r1) ∧ IsS88 w0 w' g r2 r3 r4 r5 ∧ Below w0.heap.size w0 w' ∧ KeepBut w w' g none := by
 have HI0 := Aside0.mk hI
 have HK := Aside0.mk (KeepBut.refl w g none)
 have HL := Aside0.mk hB.size
 clear hI
 have HW0 := Aside0.mk hB.size
 have HB := Aside0.mk hB
 clear hB
 have H : (some (s0_3, s0_0, s0_1, s0_2, s0_3)) = some (r1, r2, r3, r4, r5) := h
 clear h
 simp only [Option.some.injEq, Prod.mk.injEq] at H
 obtain ⟨rfl, rfl, rfl, rfl, rfl⟩ := H
 obtain ⟨HGz2, hgz2⟩ := HI0.out
 have hcz2_0 := cellS88_0 HGz2
 have hcz2_1 := cellS88_1 HGz2
 have hcz2_2 := cellS88_2 HGz2
 have hcz2_3 := cellS88_3 HGz2
 have hfz2_0 := blk_frozen HGz2 0
 have hfz2_1 := blk_frozen HGz2 1
 have hfz2_2 := blk_frozen HGz2 2
 have hfz2_3 := blk_frozen HGz2 3
 clear HGz2 hgz2
 go_enter Tryd.func40, Tryd.ntmps40
 go_wp2
 go_ret
 exact ⟨by first | rfl | (simp [errW_none, errW_some] <;> rfl) | (simp [*, errW_none, errW_some] <;> rfl), by repeat (first | (with_reducible first | exact HI0.out | apply IsS88.alloc | apply IsS88.drewN | apply IsS88.drew | apply IsS88.set_0 | apply IsS88.set_1 | apply IsS88.set_2 | apply IsS88.set_3) | exact HI0.out), by repeat (first | (with_reducible first | exact HB.out | apply below_alloc | apply pw_below_drewN | apply below_drew1 | refine below_set ?_ (IsS88.ge HI0.out)) | exact HB.out), by repeat (first | (with_reducible first | exact HK.out | apply KeepBut.set_ | apply keep_drewN | apply keep_drew | apply keep_alloc) | exact HK.out)⟩
def encode_Reader_Close.f (s0_0 : ByteArray) (s0_1 : Int) (s0_2 : Int) (s0_3 : Int) : Option (ByteArray × Int × Int × Int) := (encode_Reader_head.f s0_0 s0_1 s0_2 s0_3 101 (decide (s0_2 > 0)) (-1)).bind fun bt336 => (some (bt336.1, bt336.2.1, bt336.2.2.1, bt336.2.2.2))
set_option maxHeartbeats 8000000 in
set_option maxRecDepth 100000 in
theorem encode_Reader_Close.calls (g : Nat) (s0_0 : ByteArray) (s0_1 : Int) (s0_2 : Int) (s0_3 : Int) (r1 : ByteArray) (r2 : Int) (r3 : Int) (r4 : Int) (w0 w : World) (hI : IsS88 w0 w g s0_0 s0_1 s0_2 s0_3) (hB : Below w0.heap.size w0 w) (h : encode_Reader_Close.f s0_0 s0_1 s0_2 s0_3 = some (r1, r2, r3, r4)) :
  Calls Tryd.prog 41 #[.pointer (some ⟨g, 0, none⟩)] w fun e w' => e = .returned (.tuple #[]) ∧ IsS88 w0 w' g r1 r2 r3 r4 ∧ Below w0.heap.size w0 w' ∧ KeepBut w w' g none := by
 have HI0 := Aside0.mk hI
 have HK := Aside0.mk (KeepBut.refl w g none)
 have HL := Aside0.mk hB.size
 clear hI
 have HW0 := Aside0.mk hB.size
 have HB := Aside0.mk hB
 clear hB
 have H : ((encode_Reader_head.f s0_0 s0_1 s0_2 s0_3 101 (decide (s0_2 > 0)) (-1)).bind fun bt336 => (some (bt336.1, bt336.2.1, bt336.2.2.1, bt336.2.2.2))) = some (r1, r2, r3, r4) := h
 clear h
 replace H := Option.bind_eq_some_iff.mp H
 obtain ⟨⟨t336, t337, t338, t339⟩, A20, H⟩ := H
 replace H : (some (t336, t337, t338, t339)) = some (r1, r2, r3, r4) := H
 have A2 := Aside0.mk A20
 clear A20
 simp only [Option.some.injEq, Prod.mk.injEq] at H
 obtain ⟨rfl, rfl, rfl, rfl⟩ := H
 obtain ⟨HGz3, hgz3⟩ := HI0.out
 have hcz3_0 := cellS88_0 HGz3
 have hcz3_1 := cellS88_1 HGz3
 have hcz3_2 := cellS88_2 HGz3
 have hcz3_3 := cellS88_3 HGz3
 have hfz3_0 := blk_frozen HGz3 0
 have hfz3_1 := blk_frozen HGz3 1
 have hfz3_2 := blk_frozen HGz3 2
 have hfz3_3 := blk_frozen HGz3 3
 clear HGz3 hgz3
 go_enter Tryd.func41, Tryd.ntmps41
 go_wp2_with (first | ((with_reducible refine gate_callee (f := 56) rfl ?_); refine goesL_ (some 8) rfl rfl Tryd.func56 (by kernel_rfl) rfl #[.pointer (some ⟨g, 0, none⟩), .int .u8 101, .bool (decide (s0_2 > 0)), .int .i64 (-1)] rfl (by (try simp only [List.map_toArray, List.map_cons, List.map_nil]); first | done | rfl | (simp only [List.length_drop, List.length_take]; rfl)) ?_; (with_reducible refine (encode_Reader_head.calls g s0_0 s0_1 s0_2 s0_3 101 (decide (s0_2 > 0)) (-1) t336 t337 t338 t339 w0 _ ?side1 ?side2 A2.out).mono ?_); (case side1 => repeat (first | (with_reducible first | exact HI0.out | apply IsS88.alloc | apply IsS88.drewN | apply IsS88.drew | apply IsS88.set_0 | apply IsS88.set_1 | apply IsS88.set_2 | apply IsS88.set_3) | exact HI0.out)); (case side2 => repeat (first | (with_reducible first | exact HB.out | apply below_alloc | apply pw_below_drewN | apply below_drew1 | refine below_set ?_ (IsS88.ge HI0.out)) | exact HB.out)); rintro e w4 ⟨rfl, hi, hb, hk⟩; refine ⟨_, rfl, ?_⟩; have n0_ := Aside0.mk (KeepBut.trans (by repeat (first | (with_reducible first | exact HK.out | apply KeepBut.set_ | apply keep_drewN | apply keep_drew | apply keep_alloc) | exact HK.out)) hk (.inl rfl)); have n1_ := Aside0.mk (hb); have n2_ := Aside0.mk (hi); clear HK; clear HB; clear HI0; have HK := n0_; have HB := n1_; have HI0 := n2_; clear n0_ n1_ n2_; (try clear hb); (try clear hb2); (try clear hk); (try clear hi)))
 first | go_end0 | ((try simp only [Exit.inBlock, Exit.then]); refine bodyPost_ret (results_none rfl _ _ _) rfl ?_)
 exact ⟨by first | rfl | (simp [errW_none, errW_some] <;> rfl) | (simp [*, errW_none, errW_some] <;> rfl), by repeat (first | (with_reducible first | exact HI0.out | apply IsS88.alloc | apply IsS88.drewN | apply IsS88.drew | apply IsS88.set_0 | apply IsS88.set_1 | apply IsS88.set_2 | apply IsS88.set_3) | exact HI0.out), by repeat (first | (with_reducible first | exact HB.out | apply below_alloc | apply pw_below_drewN | apply below_drew1 | refine below_set ?_ (IsS88.ge HI0.out)) | exact HB.out), by repeat (first | (with_reducible first | exact HK.out | apply KeepBut.set_ | apply keep_drewN | apply keep_drew | apply keep_alloc) | exact HK.out)⟩
def encode_Reader_End.f (s0_0 : ByteArray) (s0_1 : Int) (s0_2 : Int) (s0_3 : Int) : Option (Int × ByteArray × Int × Int × Int) := if s0_3 = 0 then (if s0_1 = (s0_0.size : Int) then (if s0_2 > 0 then (some (2, s0_0, s0_1, s0_2, s0_3)) else (some (s0_3, s0_0, s0_1, s0_2, s0_3))) else (some (2, s0_0, s0_1, s0_2, s0_3))) else (some (s0_3, s0_0, s0_1, s0_2, s0_3))
set_option maxHeartbeats 8000000 in
set_option maxRecDepth 100000 in
theorem encode_Reader_End.calls (g : Nat) (s0_0 : ByteArray) (s0_1 : Int) (s0_2 : Int) (s0_3 : Int) (r1 : Int) (r2 : ByteArray) (r3 : Int) (r4 : Int) (r5 : Int) (w0 w : World) (hI : IsS88 w0 w g s0_0 s0_1 s0_2 s0_3) (hB : Below w0.heap.size w0 w) (h : encode_Reader_End.f s0_0 s0_1 s0_2 s0_3 = some (r1, r2, r3, r4, r5)) :
  Calls Tryd.prog 42 #[.pointer (some ⟨g, 0, none⟩)] w fun e w' => e = .returned (.int .i64 r1) ∧ IsS88 w0 w' g r2 r3 r4 r5 ∧ Below w0.heap.size w0 w' ∧ KeepBut w w' g none := by
 have HI0 := Aside0.mk hI
 have HK := Aside0.mk (KeepBut.refl w g none)
 have HL := Aside0.mk hB.size
 clear hI
 have HW0 := Aside0.mk hB.size
 have HB := Aside0.mk hB
 clear hB
 have H : (if s0_3 = 0 then (if s0_1 = (s0_0.size : Int) then (if s0_2 > 0 then (some (2, s0_0, s0_1, s0_2, s0_3)) else (some (s0_3, s0_0, s0_1, s0_2, s0_3))) else (some (2, s0_0, s0_1, s0_2, s0_3))) else (some (s0_3, s0_0, s0_1, s0_2, s0_3))) = some (r1, r2, r3, r4, r5) := h
 clear h
 by_cases c2 : s0_3 = 0
 ·rw [if_pos c2] at H
  have c2b0 : (s0_3 == 0) = true := beq_iff_eq.mpr c2
  have c2b1 : (s0_3 != 0) = false := bne_eq_false_iff_eq.mpr c2
  clear c2
  by_cases c3 : s0_1 = (s0_0.size : Int)
  ·rw [if_pos c3] at H
   have c3b0 : (s0_1 == (s0_0.size : Int)) = true := beq_iff_eq.mpr c3
   have c3b1 : (s0_1 != (s0_0.size : Int)) = false := bne_eq_false_iff_eq.mpr c3
   clear c3
   by_cases c4 : s0_2 > 0
   ·rw [if_pos c4] at H
    have c4b0 : decide (0 < s0_2) = true := decide_eq_true c4
    clear c4
    simp only [Option.some.injEq, Prod.mk.injEq] at H
    obtain ⟨rfl, rfl, rfl, rfl, rfl⟩ := H
    obtain ⟨HGz5, hgz5⟩ := HI0.out
    have hcz5_0 := cellS88_0 HGz5
    have hcz5_1 := cellS88_1 HGz5
    have hcz5_2 := cellS88_2 HGz5
    have hcz5_3 := cellS88_3 HGz5
    have hfz5_0 := blk_frozen HGz5 0
    have hfz5_1 := blk_frozen HGz5 1
    have hfz5_2 := blk_frozen HGz5 2
    have hfz5_3 := blk_frozen HGz5 3
    clear HGz5 hgz5
    go_enter Tryd.func42, Tryd.ntmps42
    go_wp2
    repeat (go_quiet (fail); try go_wp2)
    go_ret
    exact ⟨by first | rfl | (simp [errW_none, errW_some] <;> rfl) | (simp [*, errW_none, errW_some] <;> rfl), by repeat (first | (with_reducible first | exact HI0.out | apply IsS88.alloc | apply IsS88.drewN | apply IsS88.drew | apply IsS88.set_0 | apply IsS88.set_1 | apply IsS88.set_2 | apply IsS88.set_3) | exact HI0.out), by repeat (first | (with_reducible first | exact HB.out | apply below_alloc | apply pw_below_drewN | apply below_drew1 | refine below_set ?_ (IsS88.ge HI0.out)) | exact HB.out), by repeat (first | (with_reducible first | exact HK.out | apply KeepBut.set_ | apply keep_drewN | apply keep_drew | apply keep_alloc) | exact HK.out)⟩
   ·rw [if_neg c4] at H
    have c4b0 : decide (0 < s0_2) = false := decide_eq_false c4
    clear c4
    simp only [Option.some.injEq, Prod.mk.injEq] at H
    obtain ⟨rfl, rfl, rfl, rfl, rfl⟩ := H
    obtain ⟨HGz6, hgz6⟩ := HI0.out
    have hcz6_0 := cellS88_0 HGz6
    have hcz6_1 := cellS88_1 HGz6
    have hcz6_2 := cellS88_2 HGz6
    have hcz6_3 := cellS88_3 HGz6
    have hfz6_0 := blk_frozen HGz6 0
    have hfz6_1 := blk_frozen HGz6 1
    have hfz6_2 := blk_frozen HGz6 2
    have hfz6_3 := blk_frozen HGz6 3
    clear HGz6 hgz6
    go_enter Tryd.func42, Tryd.ntmps42
    go_wp2
    repeat (go_quiet (fail); try go_wp2)
    go_ret
    exact ⟨by first | rfl | (simp [errW_none, errW_some] <;> rfl) | (simp [*, errW_none, errW_some] <;> rfl), by repeat (first | (with_reducible first | exact HI0.out | apply IsS88.alloc | apply IsS88.drewN | apply IsS88.drew | apply IsS88.set_0 | apply IsS88.set_1 | apply IsS88.set_2 | apply IsS88.set_3) | exact HI0.out), by repeat (first | (with_reducible first | exact HB.out | apply below_alloc | apply pw_below_drewN | apply below_drew1 | refine below_set ?_ (IsS88.ge HI0.out)) | exact HB.out), by repeat (first | (with_reducible first | exact HK.out | apply KeepBut.set_ | apply keep_drewN | apply keep_drew | apply keep_alloc) | exact HK.out)⟩
  ·rw [if_neg c3] at H
   have c3b0 : (s0_1 == (s0_0.size : Int)) = false := beq_eq_false_iff_ne.mpr c3
   have c3b1 : (s0_1 != (s0_0.size : Int)) = true := bne_iff_ne.mpr c3
   simp only [Option.some.injEq, Prod.mk.injEq] at H
   obtain ⟨rfl, rfl, rfl, rfl, rfl⟩ := H
   obtain ⟨HGz7, hgz7⟩ := HI0.out
   have hcz7_0 := cellS88_0 HGz7
   have hcz7_1 := cellS88_1 HGz7
   have hcz7_2 := cellS88_2 HGz7
   have hcz7_3 := cellS88_3 HGz7
   have hfz7_0 := blk_frozen HGz7 0
   have hfz7_1 := blk_frozen HGz7 1
   have hfz7_2 := blk_frozen HGz7 2
   have hfz7_3 := blk_frozen HGz7 3
   clear HGz7 hgz7
   go_enter Tryd.func42, Tryd.ntmps42
   go_wp2
   repeat (go_quiet (fail); try go_wp2)
   go_ret
   exact ⟨by first | rfl | (simp [errW_none, errW_some] <;> rfl) | (simp [*, errW_none, errW_some] <;> rfl), by repeat (first | (with_reducible first | exact HI0.out | apply IsS88.alloc | apply IsS88.drewN | apply IsS88.drew | apply IsS88.set_0 | apply IsS88.set_1 | apply IsS88.set_2 | apply IsS88.set_3) | exact HI0.out), by repeat (first | (with_reducible first | exact HB.out | apply below_alloc | apply pw_below_drewN | apply below_drew1 | refine below_set ?_ (IsS88.ge HI0.out)) | exact HB.out), by repeat (first | (with_reducible first | exact HK.out | apply KeepBut.set_ | apply keep_drewN | apply keep_drew | apply keep_alloc) | exact HK.out)⟩
 ·rw [if_neg c2] at H
  have c2b0 : (s0_3 == 0) = false := beq_eq_false_iff_ne.mpr c2
  have c2b1 : (s0_3 != 0) = true := bne_iff_ne.mpr c2
  simp only [Option.some.injEq, Prod.mk.injEq] at H
  obtain ⟨rfl, rfl, rfl, rfl, rfl⟩ := H
  obtain ⟨HGz8, hgz8⟩ := HI0.out
  have hcz8_0 := cellS88_0 HGz8
  have hcz8_1 := cellS88_1 HGz8
  have hcz8_2 := cellS88_2 HGz8
  have hcz8_3 := cellS88_3 HGz8
  have hfz8_0 := blk_frozen HGz8 0
  have hfz8_1 := blk_frozen HGz8 1
  have hfz8_2 := blk_frozen HGz8 2
  have hfz8_3 := blk_frozen HGz8 3
  clear HGz8 hgz8
  go_enter Tryd.func42, Tryd.ntmps42
  go_wp2
  repeat (go_quiet (fail); try go_wp2)
  go_ret
  exact ⟨by first | rfl | (simp [errW_none, errW_some] <;> rfl) | (simp [*, errW_none, errW_some] <;> rfl), by repeat (first | (with_reducible first | exact HI0.out | apply IsS88.alloc | apply IsS88.drewN | apply IsS88.drew | apply IsS88.set_0 | apply IsS88.set_1 | apply IsS88.set_2 | apply IsS88.set_3) | exact HI0.out), by repeat (first | (with_reducible first | exact HB.out | apply below_alloc | apply pw_below_drewN | apply below_drew1 | refine below_set ?_ (IsS88.ge HI0.out)) | exact HB.out), by repeat (first | (with_reducible first | exact HK.out | apply KeepBut.set_ | apply keep_drewN | apply keep_drew | apply keep_alloc) | exact HK.out)⟩
def encode_Reader_move.f (s0_0 : ByteArray) (s0_1 : Int) (s0_2 : Int) (s0_3 : Int) (a1 : Int) : Option (ByteArray × Int × Int × Int) := if a1 < 0 then ((encode_Reader_Fail.f s0_0 s0_1 s0_2 s0_3).bind fun bt340 => (some (bt340.1, bt340.2.1, bt340.2.2.1, bt340.2.2.2))) else (some (s0_0, a1, s0_2, s0_3))
set_option maxHeartbeats 8000000 in
set_option maxRecDepth 100000 in
theorem encode_Reader_move.calls (g : Nat) (s0_0 : ByteArray) (s0_1 : Int) (s0_2 : Int) (s0_3 : Int) (a1 : Int) (r1 : ByteArray) (r2 : Int) (r3 : Int) (r4 : Int) (w0 w : World) (hI : IsS88 w0 w g s0_0 s0_1 s0_2 s0_3) (hB : Below w0.heap.size w0 w) (h : encode_Reader_move.f s0_0 s0_1 s0_2 s0_3 a1 = some (r1, r2, r3, r4)) :
  Calls Tryd.prog 58 #[.pointer (some ⟨g, 0, none⟩), .int .i64 a1] w fun e w' => e = .returned (.tuple #[]) ∧ IsS88 w0 w' g r1 r2 r3 r4 ∧ Below w0.heap.size w0 w' ∧ KeepBut w w' g none := by
 have HI0 := Aside0.mk hI
 have HK := Aside0.mk (KeepBut.refl w g none)
 have HL := Aside0.mk hB.size
 clear hI
 have HW0 := Aside0.mk hB.size
 have HB := Aside0.mk hB
 clear hB
 have H : (if a1 < 0 then ((encode_Reader_Fail.f s0_0 s0_1 s0_2 s0_3).bind fun bt340 => (some (bt340.1, bt340.2.1, bt340.2.2.1, bt340.2.2.2))) else (some (s0_0, a1, s0_2, s0_3))) = some (r1, r2, r3, r4) := h
 clear h
 by_cases c3 : a1 < 0
 ·rw [if_pos c3] at H
  have c3b0 : decide (a1 < 0) = true := decide_eq_true c3
  clear c3
  replace H := Option.bind_eq_some_iff.mp H
  obtain ⟨⟨t340, t341, t342, t343⟩, A40, H⟩ := H
  replace H : (some (t340, t341, t342, t343)) = some (r1, r2, r3, r4) := H
  have A4 := Aside0.mk A40
  clear A40
  simp only [Option.some.injEq, Prod.mk.injEq] at H
  obtain ⟨rfl, rfl, rfl, rfl⟩ := H
  go_enter Tryd.func58, Tryd.ntmps58
  go_wp2_with (first | ((with_reducible refine gate_callee (f := 68) rfl ?_); refine goesL_ (some 7) rfl rfl Tryd.func68 (by kernel_rfl) rfl #[.pointer (some ⟨g, 0, none⟩)] rfl (by (try simp only [List.map_toArray, List.map_cons, List.map_nil]); first | done | rfl | (simp only [List.length_drop, List.length_take]; rfl)) ?_; (with_reducible refine (encode_Reader_Fail.calls g s0_0 s0_1 s0_2 s0_3 t340 t341 t342 t343 w0 _ ?side1 ?side2 A4.out).mono ?_); (case side1 => repeat (first | (with_reducible first | exact HI0.out | apply IsS88.alloc | apply IsS88.drewN | apply IsS88.drew | apply IsS88.set_0 | apply IsS88.set_1 | apply IsS88.set_2 | apply IsS88.set_3) | exact HI0.out)); (case side2 => repeat (first | (with_reducible first | exact HB.out | apply below_alloc | apply pw_below_drewN | apply below_drew1 | refine below_set ?_ (IsS88.ge HI0.out)) | exact HB.out)); rintro e w5 ⟨rfl, hi, hb, hk⟩; refine ⟨_, rfl, ?_⟩; have n0_ := Aside0.mk (KeepBut.trans (by repeat (first | (with_reducible first | exact HK.out | apply KeepBut.set_ | apply keep_drewN | apply keep_drew | apply keep_alloc) | exact HK.out)) hk (.inl rfl)); have n1_ := Aside0.mk (hb); have n2_ := Aside0.mk (hi); clear HK; clear HB; clear HI0; have HK := n0_; have HB := n1_; have HI0 := n2_; clear n0_ n1_ n2_; (try clear hb); (try clear hb2); (try clear hk); (try clear hi)))
  first | go_end0 | ((try simp only [Exit.inBlock, Exit.then]); refine bodyPost_ret (results_none rfl _ _ _) rfl ?_)
  exact ⟨by first | rfl | (simp [errW_none, errW_some] <;> rfl) | (simp [*, errW_none, errW_some] <;> rfl), by repeat (first | (with_reducible first | exact HI0.out | apply IsS88.alloc | apply IsS88.drewN | apply IsS88.drew | apply IsS88.set_0 | apply IsS88.set_1 | apply IsS88.set_2 | apply IsS88.set_3) | exact HI0.out), by repeat (first | (with_reducible first | exact HB.out | apply below_alloc | apply pw_below_drewN | apply below_drew1 | refine below_set ?_ (IsS88.ge HI0.out)) | exact HB.out), by repeat (first | (with_reducible first | exact HK.out | apply KeepBut.set_ | apply keep_drewN | apply keep_drew | apply keep_alloc) | exact HK.out)⟩
 ·rw [if_neg c3] at H
  have c3b0 : decide (a1 < 0) = false := decide_eq_false c3
  clear c3
  simp only [Option.some.injEq, Prod.mk.injEq] at H
  obtain ⟨rfl, rfl, rfl, rfl⟩ := H
  obtain ⟨HGz6, hgz6⟩ := HI0.out
  have hcz6_0 := cellS88_0 HGz6
  have hcz6_1 := cellS88_1 HGz6
  have hcz6_2 := cellS88_2 HGz6
  have hcz6_3 := cellS88_3 HGz6
  have hfz6_0 := blk_frozen HGz6 0
  have hfz6_1 := blk_frozen HGz6 1
  have hfz6_2 := blk_frozen HGz6 2
  have hfz6_3 := blk_frozen HGz6 3
  clear HGz6 hgz6
  go_enter Tryd.func58, Tryd.ntmps58
  go_wp2
  first | go_end0 | ((try simp only [Exit.inBlock, Exit.then]); refine bodyPost_ret (results_none rfl _ _ _) rfl ?_)
  exact ⟨by first | rfl | (simp [errW_none, errW_some] <;> rfl) | (simp [*, errW_none, errW_some] <;> rfl), by repeat (first | (with_reducible first | exact HI0.out | apply IsS88.alloc | apply IsS88.drewN | apply IsS88.drew | apply IsS88.set_0 | apply IsS88.set_1 | apply IsS88.set_2 | apply IsS88.set_3) | exact HI0.out), by repeat (first | (with_reducible first | exact HB.out | apply below_alloc | apply pw_below_drewN | apply below_drew1 | refine below_set ?_ (IsS88.ge HI0.out)) | exact HB.out), by repeat (first | (with_reducible first | exact HK.out | apply KeepBut.set_ | apply keep_drewN | apply keep_drew | apply keep_alloc) | exact HK.out)⟩
end Go.Proofs.YtfpopmojlmpopaaDoor.G

end
section
namespace Go.Proofs.YtfpopmojlmpopaaDoor.H
open Go.RowKit Go.Proofs.YtfpopmojlmpopaaDoorW.PrintWords Go.Proofs.YtfpopmojlmpopaaDoorW.PrintLast Go.Proofs.YtfpopmojlmpopaaDoorW.PrintMore Go.Proofs.YtfpopmojlmpopaaDoor.G
set_option linter.unusedVariables false
set_option linter.unusedSimpArgs false
def encode_Reader_Int.f (s0_0 : ByteArray) (s0_1 : Int) (s0_2 : Int) (s0_3 : Int) : Option (Int × ByteArray × Int × Int × Int) :=
 if s0_3 = 0 then
  if 0 ≤ s0_1 ∧ s0_1 ≤ (s0_0.size : Int) ∧ (s0_0.size : Int) ≤ 140737488355328 then
   (encode_Reader_move.f s0_0 s0_1 s0_2 s0_3 (outN (integerN s0_0 s0_1.toNat)).2).bind fun t => some ((outN (integerN s0_0 s0_1.toNat)).1, t.1, t.2.1, t.2.2.1, t.2.2.2)
  else none
 else some ((0 : Int), s0_0, s0_1, s0_2, s0_3)
set_option maxHeartbeats 8000000 in
set_option maxRecDepth 100000 in
theorem encode_Reader_Int.calls (g : Nat) (s0_0 : ByteArray) (s0_1 : Int) (s0_2 : Int) (s0_3 : Int) (r1 : Int) (r2 : ByteArray) (r3 : Int) (r4 : Int) (r5 : Int) (w0 w : World) (hLd : Laid w0) (hI : IsS88 w0 w g s0_0 s0_1 s0_2 s0_3) (hB : Below w0.heap.size w0 w) (h : encode_Reader_Int.f s0_0 s0_1 s0_2 s0_3 = some (r1, r2, r3, r4, r5)) :
  Calls Tryd.prog 37 #[.pointer (some ⟨g, 0, none⟩)] w fun e w' => e = .returned (.int .i64 r1) ∧ IsS88 w0 w' g r2 r3 r4 r5 ∧ Below w0.heap.size w0 w' ∧ KeepBut w w' g none := by
 unfold encode_Reader_Int.f at h
 obtain ⟨HGz, hgz⟩ := hI
 have hcz_0 := cellS88_0 HGz
 have hcz_1 := cellS88_1 HGz
 have hcz_2 := cellS88_2 HGz
 have hcz_3 := cellS88_3 HGz
 have hfz_0 := blk_frozen HGz 0
 have hfz_1 := blk_frozen HGz 1
 have hfz_2 := blk_frozen HGz 2
 have hfz_3 := blk_frozen HGz 3
 have HG := Lib.hid HGz
 have HB := Lib.hid hB
 have HL := Lib.hid hLd
 clear HGz hB hLd
 have GZ := Lib.hid hgz
 clear hgz
 go_enter Tryd.func37, Tryd.ntmps37
 by_cases h3 : s0_3 = 0
 ·rw [if_pos h3] at h
  have c0 : (s0_3 == 0) = true := beq_iff_eq.mpr h3
  have c1 : (s0_3 != 0) = false := bne_eq_false_iff_eq.mpr h3
  clear h3
  by_cases hr : 0 ≤ s0_1 ∧ s0_1 ≤ (s0_0.size : Int) ∧ (s0_0.size : Int) ≤ 140737488355328
  ·rw [if_pos hr] at h
   obtain ⟨hr0, hr1, hr2⟩ := hr
   obtain ⟨i, rfl⟩ := Int.eq_ofNat_of_zero_le hr0
   rw [Int.toNat_natCast] at h
   obtain ⟨o, ho⟩ : ∃ o, outN (integerN s0_0 i) = o := ⟨_, rfl⟩
   rw [ho] at h
   replace h := Option.bind_eq_some_iff.mp h
   obtain ⟨⟨t0, t1, t2, t3⟩, hm, h⟩ := h
   simp only [Option.some.injEq, Prod.mk.injEq] at h
   obtain ⟨rfl, rfl, rfl, rfl, rfl⟩ := h
   have HM := Lib.hid hm
   clear hm
   have HC := Lib.hid (encode_integer_calls s0_0 i (by omega) (by omega) w.drew (HL.out.below (below_drew1 HB.out)))
   clear hr0 hr1 hr2
   go_wp2_with fail
   refine start_ (n := 14) (S := fun w' => w'.cell? ⟨g, 0, none⟩ = some (.string s0_0) ∧ w'.cell? ⟨g, 1, none⟩ = some (.int .i64 (i : Int))) (ds := []) #[false, false, false, false, false, false, false, false, false, false, false, false, false, false] (by kernel_rfl) rfl rfl ⟨hcz_0, hcz_1⟩ (fun hHeld => ?_)
   refine pure_ (i := 0) (N := some 11) (v := ?_) (a' := ?_) #[true, false, false, false, false, false, false, false, false, false, false, false, false, false] rfl rfl (by kernel_rfl) (fun _ _ _ h => h) (Or.inl ⟨by rfl, ?_⟩) ?_ ?_
   rotate_left
   ·intro w'
    go_simp
    with_reducible rfl
   rotate_left
   ·simp only [Act.put, sA_, sB_, sC_, i64_w, i32_w]
    rfl
   refine pure_ (i := 1) (N := some 12) (v := ?_) (a' := ?_) #[true, true, false, false, false, false, false, false, false, false, false, false, false, false] rfl rfl (by kernel_rfl) (fun _ _ _ h => h) (Or.inl ⟨by rfl, ?_⟩) ?_ ?_
   rotate_left
   ·intro w'
    go_simp
    with_reducible rfl
   rotate_left
   ·simp only [Act.put, sA_, sB_, sC_, i64_w, i32_w]
    rfl
   refine pure_ (i := 2) (N := some 13) (v := ?_) (a' := ?_) #[true, true, true, false, false, false, false, false, false, false, false, false, false, false] rfl rfl (by kernel_rfl) (fun _ _ _ h => h) (Or.inl ⟨by rfl, ?_⟩) ?_ ?_
   rotate_left
   ·intro w'
    go_simp
    with_reducible rfl
   rotate_left
   ·simp only [Act.put, sA_, sB_, sC_, i64_w, i32_w]
    rfl
   refine pure_ (i := 4) (N := some 15) (v := ?_) (a' := ?_) #[true, true, true, false, true, false, false, false, false, false, false, false, false, false] rfl rfl (by kernel_rfl) (fun _ _ _ h => h) (Or.inl ⟨by rfl, ?_⟩) ?_ ?_
   rotate_left
   ·intro w'
    go_simp
    with_reducible rfl
   rotate_left
   ·simp only [Act.put, sA_, sB_, sC_, i64_w, i32_w]
    rfl
   refine pure_ (i := 5) (N := some 16) (v := ?_) (a' := ?_) #[true, true, true, false, true, true, false, false, false, false, false, false, false, false] rfl rfl (by kernel_rfl) (fun _ _ _ h => h) (Or.inl ⟨by rfl, ?_⟩) ?_ ?_
   rotate_left
   ·intro w'
    go_simp
    with_reducible rfl
   rotate_left
   ·simp only [Act.put, sA_, sB_, sC_, i64_w, i32_w]
    rfl
   refine pure_ (i := 6) (N := some 17) (v := ?_) (a' := ?_) #[true, true, true, false, true, true, true, false, false, false, false, false, false, false] rfl rfl (by kernel_rfl) (fun _ _ _ h => h) (Or.inl ⟨by rfl, ?_⟩) ?_ ?_
   rotate_left
   ·intro w'
    go_simp
    with_reducible rfl
   rotate_left
   ·simp only [Act.put, sA_, sB_, sC_, i64_w, i32_w]
    rfl
   refine take_ (i := 3) (N := some 14) (v := ?_) (a' := ?_) #[true, true, true, true, true, true, true, false, false, false, false, false, false, false] rfl rfl (by kernel_rfl) (fun _ _ _ h => h) (Or.inl ⟨by rfl, ?_⟩) hHeld ?_ ?_
   rotate_left
   ·rintro w' ⟨s0, s1⟩
    go_simp
    with_reducible rfl
   rotate_left
   ·simp only [Act.put, sA_, sB_, sC_, i64_w, i32_w]
    rfl
   refine take_ (i := 7) (N := some 18) (v := ?_) (a' := ?_) #[true, true, true, true, true, true, true, true, false, false, false, false, false, false] rfl rfl (by kernel_rfl) (fun _ _ _ h => h) (Or.inl ⟨by rfl, ?_⟩) hHeld ?_ ?_
   rotate_left
   ·rintro w' ⟨s0, s1⟩
    go_simp
    with_reducible rfl
   rotate_left
   ·simp only [Act.put, sA_, sB_, sC_, i64_w, i32_w]
    rfl
   refine one_ (i := 8) (N := some 19) #[true, true, true, true, true, true, true, true, true, false, false, false, false, false] rfl rfl (by kernel_rfl) (by decide) (fun K hK => ?_)
   refine goes_ Tryd.func57 (by kernel_rfl) rfl #[.string s0_0, .int .i64 (i : Int)] (by rfl) rfl rfl (by simp only [List.map_toArray, List.map_cons, List.map_nil]; rfl) ?_
   with_reducible refine (HC.out).mono ?_
   rintro e w3 ⟨rfl, hb⟩
   refine ⟨_, rfl, ?_⟩
   have HR3 := Lib.hid (show Below w.heap.size w w3 from ⟨hb.os, hb.tape, hb.output, hb.size, hb.block⟩)
   clear hb
   refine hK.out _ _ ⟨(HR3.out.cell (blk_lt HG.out)).trans hcz_0, (HR3.out.cell (blk_lt HG.out)).trans hcz_1⟩ (fun hHeld => ?_)
   clear hK K
   refine norm_ (a' := ?_) ?_ ?_
   rotate_left
   ·show Act.put _ (some 19) _ = _
    simp only [Act.put, sA_, sB_, sC_, i64_w, i32_w]
    rfl
   refine pure_ (i := 9) (N := some 10) (v := ?_) (a' := ?_) #[true, true, true, true, true, true, true, true, true, true, false, false, false, false] rfl rfl (by kernel_rfl) (fun _ _ _ h => h) (Or.inl ⟨by rfl, ?_⟩) ?_ ?_
   rotate_left
   ·intro w'
    go_simp
    with_reducible rfl
   rotate_left
   ·simp only [Act.put, sA_, sB_, sC_, i64_w, i32_w]
    rfl
   refine pure_ (i := 10) (N := some 20) (v := ?_) (a' := ?_) #[true, true, true, true, true, true, true, true, true, true, true, false, false, false] rfl rfl (by kernel_rfl) (fun _ _ _ h => h) (Or.inl ⟨by rfl, ?_⟩) ?_ ?_
   rotate_left
   ·intro w'
    go_simp
    with_reducible rfl
   rotate_left
   ·simp only [Act.put, sA_, sB_, sC_, i64_w, i32_w]
    rfl
   refine pure_ (i := 11) (N := some 21) (v := ?_) (a' := ?_) #[true, true, true, true, true, true, true, true, true, true, true, true, false, false] rfl rfl (by kernel_rfl) (fun _ _ _ h => h) (Or.inl ⟨by rfl, ?_⟩) ?_ ?_
   rotate_left
   ·intro w'
    go_simp
    with_reducible rfl
   rotate_left
   ·simp only [Act.put, sA_, sB_, sC_, i64_w, i32_w]
    rfl
   refine pure_ (i := 12) (N := some 3) (v := ?_) (a' := ?_) #[true, true, true, true, true, true, true, true, true, true, true, true, true, false] rfl rfl (by kernel_rfl) (fun _ _ _ h => h) (Or.inl ⟨by rfl, ?_⟩) ?_ ?_
   rotate_left
   ·intro w'
    go_simp
    with_reducible rfl
   rotate_left
   ·simp only [Act.put, sA_, sB_, sC_, i64_w, i32_w]
    rfl
   refine pure_ (i := 13) (N := some 4) (v := ?_) (a' := ?_) #[true, true, true, true, true, true, true, true, true, true, true, true, true, true] rfl rfl (by kernel_rfl) (fun _ _ _ h => h) (Or.inl ⟨by rfl, ?_⟩) ?_ ?_
   rotate_left
   ·intro w'
    go_simp
    with_reducible rfl
   rotate_left
   ·simp only [Act.put, sA_, sB_, sC_, i64_w, i32_w]
    rfl
   refine done_ (by kernel_rfl) ?_
   rw [ho]
   have HB3 : Hid (Below w0.heap.size w0 w3) := Lib.hid (HB.out.trans (HR3.out.mono HB.out.size))
   have HI3 : Hid (IsS88 w0 w3 g s0_0 (i : Int) s0_2 s0_3) := Lib.hid (IsS88.below (show IsS88 w0 w g s0_0 (i : Int) s0_2 s0_3 from ⟨HG.out, GZ.out⟩) HR3.out)
   clear hHeld
   go_wp2_with (first
    | ((with_reducible refine gate_callee (f := 58) rfl ?_); refine goesL_ (some 24) rfl rfl Tryd.func58 (by kernel_rfl) rfl #[.pointer (some ⟨g, 0, none⟩), .int .i64 o.2] rfl (by (try simp only [List.map_toArray, List.map_cons, List.map_nil]); first | done | rfl) ?_; (with_reducible refine (encode_Reader_move.calls g s0_0 i s0_2 s0_3 o.2 t0 t1 t2 t3 w0 _ HI3.out HB3.out HM.out).mono ?_); rintro e w5 ⟨rfl, hi, hb, hk⟩; refine ⟨_, rfl, ?_⟩; have HI5 := Lib.hid hi; have HB5 := Lib.hid hb; have HK5 := Lib.hid hk; clear hi hb hk))
   go_ret
   exact ⟨rfl, HI5.out, HB5.out, (KeepBut.of_below HR3.out g none).trans HK5.out (.inl rfl)⟩
  ·rw [if_neg hr] at h
   simp at h
 ·rw [if_neg h3] at h
  have c0 : (s0_3 == 0) = false := beq_eq_false_iff_ne.mpr h3
  have c1 : (s0_3 != 0) = true := bne_iff_ne.mpr h3
  clear h3
  simp only [Option.some.injEq, Prod.mk.injEq] at h
  obtain ⟨rfl, rfl, rfl, rfl, rfl⟩ := h
  go_wp2_with fail
  go_ret
  exact ⟨rfl, ⟨HG.out, GZ.out⟩, HB.out, KeepBut.refl _ _ _⟩
def encode_Reader_Text.f (s0_0 : ByteArray) (s0_1 : Int) (s0_2 : Int) (s0_3 : Int) : Option (ByteArray × ByteArray × Int × Int × Int) :=
 if s0_3 = 0 then
  if 0 ≤ s0_1 ∧ s0_1 ≤ (s0_0.size : Int) ∧ (s0_0.size : Int) ≤ 140737488355328 then
   (encode_Reader_move.f s0_0 s0_1 s0_2 s0_3 (outT s0_0 (textN s0_0 s0_1.toNat)).2).bind fun t => some ((outT s0_0 (textN s0_0 s0_1.toNat)).1, t.1, t.2.1, t.2.2.1, t.2.2.2)
  else none
 else some ((⟨#[]⟩ : ByteArray), s0_0, s0_1, s0_2, s0_3)
set_option maxHeartbeats 8000000 in
set_option maxRecDepth 100000 in
theorem encode_Reader_Text.calls (g : Nat) (s0_0 : ByteArray) (s0_1 : Int) (s0_2 : Int) (s0_3 : Int) (r1 : ByteArray) (r2 : ByteArray) (r3 : Int) (r4 : Int) (r5 : Int) (w0 w : World) (hLd : Laid w0) (hI : IsS88 w0 w g s0_0 s0_1 s0_2 s0_3) (hB : Below w0.heap.size w0 w) (h : encode_Reader_Text.f s0_0 s0_1 s0_2 s0_3 = some (r1, r2, r3, r4, r5)) :
  Calls Tryd.prog 59 #[.pointer (some ⟨g, 0, none⟩)] w fun e w' => e = .returned (.string r1) ∧ IsS88 w0 w' g r2 r3 r4 r5 ∧ Below w0.heap.size w0 w' ∧ KeepBut w w' g none := by
 unfold encode_Reader_Text.f at h
 obtain ⟨HGz, hgz⟩ := hI
 have hcz_0 := cellS88_0 HGz
 have hcz_1 := cellS88_1 HGz
 have hcz_2 := cellS88_2 HGz
 have hcz_3 := cellS88_3 HGz
 have hfz_0 := blk_frozen HGz 0
 have hfz_1 := blk_frozen HGz 1
 have hfz_2 := blk_frozen HGz 2
 have hfz_3 := blk_frozen HGz 3
 have HG := Lib.hid HGz
 have HB := Lib.hid hB
 have HL := Lib.hid hLd
 clear HGz hB hLd
 have GZ := Lib.hid hgz
 clear hgz
 go_enter Tryd.func59, Tryd.ntmps59
 by_cases h3 : s0_3 = 0
 ·rw [if_pos h3] at h
  have c0 : (s0_3 == 0) = true := beq_iff_eq.mpr h3
  have c1 : (s0_3 != 0) = false := bne_eq_false_iff_eq.mpr h3
  clear h3
  by_cases hr : 0 ≤ s0_1 ∧ s0_1 ≤ (s0_0.size : Int) ∧ (s0_0.size : Int) ≤ 140737488355328
  ·rw [if_pos hr] at h
   obtain ⟨hr0, hr1, hr2⟩ := hr
   obtain ⟨i, rfl⟩ := Int.eq_ofNat_of_zero_le hr0
   rw [Int.toNat_natCast] at h
   obtain ⟨o, ho⟩ : ∃ o, outT s0_0 (textN s0_0 i) = o := ⟨_, rfl⟩
   rw [ho] at h
   replace h := Option.bind_eq_some_iff.mp h
   obtain ⟨⟨t0, t1, t2, t3⟩, hm, h⟩ := h
   simp only [Option.some.injEq, Prod.mk.injEq] at h
   obtain ⟨rfl, rfl, rfl, rfl, rfl⟩ := h
   have HM := Lib.hid hm
   clear hm
   have HC := Lib.hid (encode_text_calls s0_0 i (by omega) (by omega) w.drew (HL.out.below (below_drew1 HB.out)))
   clear hr0 hr1 hr2
   go_wp2_with fail
   refine start_ (n := 14) (S := fun w' => w'.cell? ⟨g, 0, none⟩ = some (.string s0_0) ∧ w'.cell? ⟨g, 1, none⟩ = some (.int .i64 (i : Int))) (ds := []) #[false, false, false, false, false, false, false, false, false, false, false, false, false, false] (by kernel_rfl) rfl rfl ⟨hcz_0, hcz_1⟩ (fun hHeld => ?_)
   refine pure_ (i := 0) (N := some 11) (v := ?_) (a' := ?_) #[true, false, false, false, false, false, false, false, false, false, false, false, false, false] rfl rfl (by kernel_rfl) (fun _ _ _ h => h) (Or.inl ⟨by rfl, ?_⟩) ?_ ?_
   rotate_left
   ·intro w'
    go_simp
    with_reducible rfl
   rotate_left
   ·simp only [Act.put, sA_, sB_, sC_, i64_w, i32_w]
    rfl
   refine pure_ (i := 1) (N := some 12) (v := ?_) (a' := ?_) #[true, true, false, false, false, false, false, false, false, false, false, false, false, false] rfl rfl (by kernel_rfl) (fun _ _ _ h => h) (Or.inl ⟨by rfl, ?_⟩) ?_ ?_
   rotate_left
   ·intro w'
    go_simp
    with_reducible rfl
   rotate_left
   ·simp only [Act.put, sA_, sB_, sC_, i64_w, i32_w]
    rfl
   refine pure_ (i := 2) (N := some 13) (v := ?_) (a' := ?_) #[true, true, true, false, false, false, false, false, false, false, false, false, false, false] rfl rfl (by kernel_rfl) (fun _ _ _ h => h) (Or.inl ⟨by rfl, ?_⟩) ?_ ?_
   rotate_left
   ·intro w'
    go_simp
    with_reducible rfl
   rotate_left
   ·simp only [Act.put, sA_, sB_, sC_, i64_w, i32_w]
    rfl
   refine pure_ (i := 4) (N := some 15) (v := ?_) (a' := ?_) #[true, true, true, false, true, false, false, false, false, false, false, false, false, false] rfl rfl (by kernel_rfl) (fun _ _ _ h => h) (Or.inl ⟨by rfl, ?_⟩) ?_ ?_
   rotate_left
   ·intro w'
    go_simp
    with_reducible rfl
   rotate_left
   ·simp only [Act.put, sA_, sB_, sC_, i64_w, i32_w]
    rfl
   refine pure_ (i := 5) (N := some 16) (v := ?_) (a' := ?_) #[true, true, true, false, true, true, false, false, false, false, false, false, false, false] rfl rfl (by kernel_rfl) (fun _ _ _ h => h) (Or.inl ⟨by rfl, ?_⟩) ?_ ?_
   rotate_left
   ·intro w'
    go_simp
    with_reducible rfl
   rotate_left
   ·simp only [Act.put, sA_, sB_, sC_, i64_w, i32_w]
    rfl
   refine pure_ (i := 6) (N := some 17) (v := ?_) (a' := ?_) #[true, true, true, false, true, true, true, false, false, false, false, false, false, false] rfl rfl (by kernel_rfl) (fun _ _ _ h => h) (Or.inl ⟨by rfl, ?_⟩) ?_ ?_
   rotate_left
   ·intro w'
    go_simp
    with_reducible rfl
   rotate_left
   ·simp only [Act.put, sA_, sB_, sC_, i64_w, i32_w]
    rfl
   refine take_ (i := 3) (N := some 14) (v := ?_) (a' := ?_) #[true, true, true, true, true, true, true, false, false, false, false, false, false, false] rfl rfl (by kernel_rfl) (fun _ _ _ h => h) (Or.inl ⟨by rfl, ?_⟩) hHeld ?_ ?_
   rotate_left
   ·rintro w' ⟨s0, s1⟩
    go_simp
    with_reducible rfl
   rotate_left
   ·simp only [Act.put, sA_, sB_, sC_, i64_w, i32_w]
    rfl
   refine take_ (i := 7) (N := some 18) (v := ?_) (a' := ?_) #[true, true, true, true, true, true, true, true, false, false, false, false, false, false] rfl rfl (by kernel_rfl) (fun _ _ _ h => h) (Or.inl ⟨by rfl, ?_⟩) hHeld ?_ ?_
   rotate_left
   ·rintro w' ⟨s0, s1⟩
    go_simp
    with_reducible rfl
   rotate_left
   ·simp only [Act.put, sA_, sB_, sC_, i64_w, i32_w]
    rfl
   refine one_ (i := 8) (N := some 19) #[true, true, true, true, true, true, true, true, true, false, false, false, false, false] rfl rfl (by kernel_rfl) (by decide) (fun K hK => ?_)
   refine goes_ Tryd.func71 (by kernel_rfl) rfl #[.string s0_0, .int .i64 (i : Int)] (by rfl) rfl rfl (by simp only [List.map_toArray, List.map_cons, List.map_nil]; rfl) ?_
   with_reducible refine (HC.out).mono ?_
   rintro e w3 ⟨rfl, hb⟩
   refine ⟨_, rfl, ?_⟩
   have HR3 := Lib.hid (show Below w.heap.size w w3 from ⟨hb.os, hb.tape, hb.output, hb.size, hb.block⟩)
   clear hb
   refine hK.out _ _ ⟨(HR3.out.cell (blk_lt HG.out)).trans hcz_0, (HR3.out.cell (blk_lt HG.out)).trans hcz_1⟩ (fun hHeld => ?_)
   clear hK K
   refine norm_ (a' := ?_) ?_ ?_
   rotate_left
   ·show Act.put _ (some 19) _ = _
    simp only [Act.put, sA_, sB_, sC_, i64_w, i32_w]
    rfl
   refine pure_ (i := 9) (N := some 10) (v := ?_) (a' := ?_) #[true, true, true, true, true, true, true, true, true, true, false, false, false, false] rfl rfl (by kernel_rfl) (fun _ _ _ h => h) (Or.inl ⟨by rfl, ?_⟩) ?_ ?_
   rotate_left
   ·intro w'
    go_simp
    with_reducible rfl
   rotate_left
   ·simp only [Act.put, sA_, sB_, sC_, i64_w, i32_w]
    rfl
   refine pure_ (i := 10) (N := some 20) (v := ?_) (a' := ?_) #[true, true, true, true, true, true, true, true, true, true, true, false, false, false] rfl rfl (by kernel_rfl) (fun _ _ _ h => h) (Or.inl ⟨by rfl, ?_⟩) ?_ ?_
   rotate_left
   ·intro w'
    go_simp
    with_reducible rfl
   rotate_left
   ·simp only [Act.put, sA_, sB_, sC_, i64_w, i32_w]
    rfl
   refine pure_ (i := 11) (N := some 21) (v := ?_) (a' := ?_) #[true, true, true, true, true, true, true, true, true, true, true, true, false, false] rfl rfl (by kernel_rfl) (fun _ _ _ h => h) (Or.inl ⟨by rfl, ?_⟩) ?_ ?_
   rotate_left
   ·intro w'
    go_simp
    with_reducible rfl
   rotate_left
   ·simp only [Act.put, sA_, sB_, sC_, i64_w, i32_w]
    rfl
   refine pure_ (i := 12) (N := some 3) (v := ?_) (a' := ?_) #[true, true, true, true, true, true, true, true, true, true, true, true, true, false] rfl rfl (by kernel_rfl) (fun _ _ _ h => h) (Or.inl ⟨by rfl, ?_⟩) ?_ ?_
   rotate_left
   ·intro w'
    go_simp
    with_reducible rfl
   rotate_left
   ·simp only [Act.put, sA_, sB_, sC_, i64_w, i32_w]
    rfl
   refine pure_ (i := 13) (N := some 4) (v := ?_) (a' := ?_) #[true, true, true, true, true, true, true, true, true, true, true, true, true, true] rfl rfl (by kernel_rfl) (fun _ _ _ h => h) (Or.inl ⟨by rfl, ?_⟩) ?_ ?_
   rotate_left
   ·intro w'
    go_simp
    with_reducible rfl
   rotate_left
   ·simp only [Act.put, sA_, sB_, sC_, i64_w, i32_w]
    rfl
   refine done_ (by kernel_rfl) ?_
   rw [ho]
   have HB3 : Hid (Below w0.heap.size w0 w3) := Lib.hid (HB.out.trans (HR3.out.mono HB.out.size))
   have HI3 : Hid (IsS88 w0 w3 g s0_0 (i : Int) s0_2 s0_3) := Lib.hid (IsS88.below (show IsS88 w0 w g s0_0 (i : Int) s0_2 s0_3 from ⟨HG.out, GZ.out⟩) HR3.out)
   clear hHeld
   go_wp2_with (first
    | ((with_reducible refine gate_callee (f := 58) rfl ?_); refine goesL_ (some 24) rfl rfl Tryd.func58 (by kernel_rfl) rfl #[.pointer (some ⟨g, 0, none⟩), .int .i64 o.2] rfl (by (try simp only [List.map_toArray, List.map_cons, List.map_nil]); first | done | rfl) ?_; (with_reducible refine (encode_Reader_move.calls g s0_0 i s0_2 s0_3 o.2 t0 t1 t2 t3 w0 _ HI3.out HB3.out HM.out).mono ?_); rintro e w5 ⟨rfl, hi, hb, hk⟩; refine ⟨_, rfl, ?_⟩; have HI5 := Lib.hid hi; have HB5 := Lib.hid hb; have HK5 := Lib.hid hk; clear hi hb hk))
   go_ret
   exact ⟨rfl, HI5.out, HB5.out, (KeepBut.of_below HR3.out g none).trans HK5.out (.inl rfl)⟩
  ·rw [if_neg hr] at h
   simp at h
 ·rw [if_neg h3] at h
  have c0 : (s0_3 == 0) = false := beq_eq_false_iff_ne.mpr h3
  have c1 : (s0_3 != 0) = true := bne_iff_ne.mpr h3
  clear h3
  simp only [Option.some.injEq, Prod.mk.injEq] at h
  obtain ⟨rfl, rfl, rfl, rfl, rfl⟩ := h
  go_wp2_with fail
  go_ret
  exact ⟨rfl, ⟨HG.out, GZ.out⟩, HB.out, KeepBut.refl _ _ _⟩
end Go.Proofs.YtfpopmojlmpopaaDoor.H

end
section
namespace Go.Proofs.YtfpopmojlmpopaaDoor.G
open Go.RowKit Go.Proofs.YtfpopmojlmpopaaDoorW.PrintWords Go.Proofs.YtfpopmojlmpopaaDoorW.PrintLast Go.Proofs.YtfpopmojlmpopaaDoorW.PrintMore
attribute [local go_sem] max2_int min2_int max_two min_two max_three min_three max_four min_four
set_option linter.unusedVariables false
set_option linter.unusedSimpArgs false
def frame_getLines.l0 : Nat → List ByteArray → ByteArray → Int → Int → Int → Option (List ByteArray × ByteArray × Int × Int × Int)
 | 0, _, _, _, _, _ => none
 | k + 1, x3, x1000, x1001, x1002, x1003 => (encode_Reader_More.f x1000 x1001 x1002 x1003).bind fun bt348 => (if bt348.1 = true then ((encode_Reader_Err.f bt348.2.1 bt348.2.2.1 bt348.2.2.2.1 bt348.2.2.2.2).bind fun bt353 => (if bt353.1 = 0 then ((Go.Proofs.YtfpopmojlmpopaaDoor.H.encode_Reader_Text.f bt353.2.1 bt353.2.2.1 bt353.2.2.2.1 bt353.2.2.2.2).bind fun bt358 => (if x3.length < 8796093022208 then (frame_getLines.l0 k (x3 ++ [bt358.1]) bt358.2.1 bt358.2.2.1 bt358.2.2.2.1 bt358.2.2.2.2) else (none))) else ((encode_Reader_Close.f bt353.2.1 bt353.2.2.1 bt353.2.2.2.1 bt353.2.2.2.2).bind fun bt366 => (some (x3, bt366.1, bt366.2.1, bt366.2.2.1, bt366.2.2.2))))) else ((encode_Reader_Close.f bt348.2.1 bt348.2.2.1 bt348.2.2.2.1 bt348.2.2.2.2).bind fun bt370 => (some (x3, bt370.1, bt370.2.1, bt370.2.2.1, bt370.2.2.2))))
def frame_getLines.f (k : Nat) (s0_0 : ByteArray) (s0_1 : Int) (s0_2 : Int) (s0_3 : Int) : Option (List ByteArray × ByteArray × Int × Int × Int) := (encode_Reader_Open.f s0_0 s0_1 s0_2 s0_3).bind fun bt344 => (frame_getLines.l0 k ([] : List ByteArray) bt344.1 bt344.2.1 bt344.2.2.1 bt344.2.2.2)
set_option maxHeartbeats 8000000 in
set_option maxRecDepth 100000 in
theorem frame_getLines.calls (k : Nat) (g : Nat) (s0_0 : ByteArray) (s0_1 : Int) (s0_2 : Int) (s0_3 : Int) (r1 : List ByteArray) (r2 : ByteArray) (r3 : Int) (r4 : Int) (r5 : Int) (w0 w : World) (hLd : Go.Proofs.YtfpopmojlmpopaaDoor.H.Laid w0) (hI : IsS88 w0 w g s0_0 s0_1 s0_2 s0_3) (hB : Below w0.heap.size w0 w) (h : frame_getLines.f k s0_0 s0_1 s0_2 s0_3 = some (r1, r2, r3, r4, r5)) :
  Calls Tryd.prog 38 #[.pointer (some ⟨g, 0, none⟩)] w fun e w' => ∃ v0_ : Value, e = .returned (v0_) ∧ Kd.R Kd.string 9 w' w.heap.size (fun _ => True) v0_ r1 ∧ IsS88 w0 w' g r2 r3 r4 r5 ∧ Below w0.heap.size w0 w' ∧ KeepBut w w' g none := by
 have HLd := Aside0.mk hLd
 clear hLd
 have HI0 := Aside0.mk hI
 have HK := Aside0.mk (KeepBut.refl w g none)
 have HL := Aside0.mk hB.size
 clear hI
 have HW0 := Aside0.mk hB.size
 have HB := Aside0.mk hB
 clear hB
 have H : ((encode_Reader_Open.f s0_0 s0_1 s0_2 s0_3).bind fun bt344 => (frame_getLines.l0 k ([] : List ByteArray) bt344.1 bt344.2.1 bt344.2.2.1 bt344.2.2.2)) = some (r1, r2, r3, r4, r5) := h
 clear h
 replace H := Option.bind_eq_some_iff.mp H
 obtain ⟨⟨t344, t345, t346, t347⟩, A20, H⟩ := H
 replace H : (frame_getLines.l0 k ([] : List ByteArray) t344 t345 t346 t347) = some (r1, r2, r3, r4, r5) := H
 have A2 := Aside0.mk A20
 clear A20
 have H' := Aside0.mk H
 clear H
 go_enter Tryd.func38, Tryd.ntmps38
 go_wp2_with (first | ((with_reducible refine gate_callee (f := 36) rfl ?_); refine goesL_ (some 5) rfl rfl Tryd.func36 (by kernel_rfl) rfl #[.pointer (some ⟨g, 0, none⟩)] rfl (by (try simp only [List.map_toArray, List.map_cons, List.map_nil]); first | done | rfl | (simp only [List.length_drop, List.length_take]; rfl)) ?_; (with_reducible refine (encode_Reader_Open.calls g s0_0 s0_1 s0_2 s0_3 t344 t345 t346 t347 w0 _ ?side1 ?side2 A2.out).mono ?_); (case side1 => repeat (first | (with_reducible first | exact HI0.out | apply IsS88.alloc | apply IsS88.drewN | apply IsS88.drew | apply IsS88.set_0 | apply IsS88.set_1 | apply IsS88.set_2 | apply IsS88.set_3) | exact HI0.out)); (case side2 => repeat (first | (with_reducible first | exact HB.out | apply below_alloc | apply pw_below_drewN | apply below_drew1 | refine below_set ?_ (IsS88.ge HI0.out)) | exact HB.out)); rintro e w3 ⟨rfl, hi, hb, hk⟩; refine ⟨_, rfl, ?_⟩; have n0_ := Aside0.mk (KeepBut.trans (by repeat (first | (with_reducible first | exact HK.out | apply KeepBut.set_ | apply keep_drewN | apply keep_drew | apply keep_alloc) | exact HK.out)) hk (.inl rfl)); have n1_ := Aside0.mk (hb); have n2_ := Aside0.mk (hi); clear HK; clear HB; clear HI0; have HK := n0_; have HB := n1_; have HI0 := n2_; clear n0_ n1_ n2_; (try clear hb); (try clear hb2); (try clear hk); (try clear hi)))
 try simp only [Act.put, sA_, sB_, sC_, i64_w, i32_w]
 go_loopg [3] k (fun kq v3 w' => ∃ (x3_1 : List ByteArray) (x1000_1 : ByteArray) (x1001_1 : Int) (x1002_1 : Int) (x1003_1 : Int), Aside0 (frame_getLines.l0 kq x3_1 x1000_1 x1001_1 x1002_1 x1003_1 = some (r1, r2, r3, r4, r5)) ∧ Aside0 (kq ≤ k) ∧ Aside0 (Kd.R Kd.string 9 w' w.heap.size (fun _ => True) v3 x3_1) ∧ Aside0 (IsS88 w0 w' g x1000_1 x1001_1 x1002_1 x1003_1) ∧ Aside0 (KeepBut w w' g none) ∧ Aside0 (Below w0.heap.size w0 w'))
 case atStart => exact ⟨(([] : List ByteArray)), (t344), (t345), (t346), (t347), H', ⟨Nat.le_refl _⟩, ⟨by first | exact Kd.R_nil _ _ _ _ _ | exact Kd.N_nil _ _ _ _ _ | exact Kd.V_nil _ _ _ _ _ | exact Kd.Q_nil _ _ _ _ _ | exact Kd.S_nil _ _ _ _ _⟩, ⟨by repeat (first | (with_reducible first | exact HI0.out | apply IsS88.alloc | apply IsS88.drewN | apply IsS88.drew | apply IsS88.set_0 | apply IsS88.set_1 | apply IsS88.set_2 | apply IsS88.set_3) | exact HI0.out)⟩, ⟨by repeat (first | (with_reducible first | exact HK.out | apply KeepBut.set_ | apply keep_drewN | apply keep_drew | apply keep_alloc) | exact HK.out)⟩, ⟨by repeat (first | (with_reducible first | exact HB.out | apply below_alloc | apply pw_below_drewN | apply below_drew1 | refine below_set ?_ (IsS88.ge HI0.out)) | exact HB.out)⟩⟩
 case round =>
  clear H'
  try clear p2
  try clear c3
  obtain ⟨x3_1, x1000_1, x1001_1, x1002_1, x1003_1, HA, HK1, HO_3, HI0, HK, HB⟩ := hrel
  cases gk with
  | zero => exact absurd HA.out (by simp [frame_getLines.l0])
  | succ k1 =>
   have H := HA.out
   clear HA
   simp only [frame_getLines.l0] at H
   replace H := Option.bind_eq_some_iff.mp H
   obtain ⟨⟨t348, t349, t350, t351, t352⟩, A40, H⟩ := H
   replace H : (if t348 = true then ((encode_Reader_Err.f t349 t350 t351 t352).bind fun bt353 => (if bt353.1 = 0 then ((Go.Proofs.YtfpopmojlmpopaaDoor.H.encode_Reader_Text.f bt353.2.1 bt353.2.2.1 bt353.2.2.2.1 bt353.2.2.2.2).bind fun bt358 => (if x3_1.length < 8796093022208 then (frame_getLines.l0 k1 (x3_1 ++ [bt358.1]) bt358.2.1 bt358.2.2.1 bt358.2.2.2.1 bt358.2.2.2.2) else (none))) else ((encode_Reader_Close.f bt353.2.1 bt353.2.2.1 bt353.2.2.2.1 bt353.2.2.2.2).bind fun bt366 => (some (x3_1, bt366.1, bt366.2.1, bt366.2.2.1, bt366.2.2.2))))) else ((encode_Reader_Close.f t349 t350 t351 t352).bind fun bt370 => (some (x3_1, bt370.1, bt370.2.1, bt370.2.2.1, bt370.2.2.2)))) = some (r1, r2, r3, r4, r5) := H
   have A4 := Aside0.mk A40
   clear A40
   by_cases c5 : t348 = true
   ·subst c5
    have H1 : ((encode_Reader_Err.f t349 t350 t351 t352).bind fun bt353 => (if bt353.1 = 0 then ((Go.Proofs.YtfpopmojlmpopaaDoor.H.encode_Reader_Text.f bt353.2.1 bt353.2.2.1 bt353.2.2.2.1 bt353.2.2.2.2).bind fun bt358 => (if x3_1.length < 8796093022208 then (frame_getLines.l0 k1 (x3_1 ++ [bt358.1]) bt358.2.1 bt358.2.2.1 bt358.2.2.2.1 bt358.2.2.2.2) else (none))) else ((encode_Reader_Close.f bt353.2.1 bt353.2.2.1 bt353.2.2.2.1 bt353.2.2.2.2).bind fun bt366 => (some (x3_1, bt366.1, bt366.2.1, bt366.2.2.1, bt366.2.2.2))))) = some (r1, r2, r3, r4, r5) := by rw [if_pos rfl] at H; exact H
    clear H
    have H := H1
    clear H1
    replace H := Option.bind_eq_some_iff.mp H
    obtain ⟨⟨t353, t354, t355, t356, t357⟩, A60, H⟩ := H
    replace H : (if t353 = 0 then ((Go.Proofs.YtfpopmojlmpopaaDoor.H.encode_Reader_Text.f t354 t355 t356 t357).bind fun bt358 => (if x3_1.length < 8796093022208 then (frame_getLines.l0 k1 (x3_1 ++ [bt358.1]) bt358.2.1 bt358.2.2.1 bt358.2.2.2.1 bt358.2.2.2.2) else (none))) else ((encode_Reader_Close.f t354 t355 t356 t357).bind fun bt366 => (some (x3_1, bt366.1, bt366.2.1, bt366.2.2.1, bt366.2.2.2)))) = some (r1, r2, r3, r4, r5) := H
    have A6 := Aside0.mk A60
    clear A60
    by_cases c7 : t353 = 0
    ·rw [if_pos c7] at H
     have c7b0 : (t353 == 0) = true := beq_iff_eq.mpr c7
     have c7b1 : (t353 != 0) = false := bne_eq_false_iff_eq.mpr c7
     clear c7
     replace H := Option.bind_eq_some_iff.mp H
     obtain ⟨⟨t358, t359, t360, t361, t362⟩, A80, H⟩ := H
     replace H : (if x3_1.length < 8796093022208 then (frame_getLines.l0 k1 (x3_1 ++ [t358]) t359 t360 t361 t362) else (none)) = some (r1, r2, r3, r4, r5) := H
     have A8 := Aside0.mk A80
     clear A80
     by_cases c9 : x3_1.length < 8796093022208
     ·rw [if_pos c9] at H
      have LMc9 := Aside0.mk c9
      clear c9
      obtain ⟨y363, hy363⟩ : ∃ y_ : List ByteArray, y_ = (x3_1 ++ [t358]) := ⟨_, rfl⟩
      replace H : (frame_getLines.l0 k1 y363 t359 t360 t361 t362) = some (r1, r2, r3, r4, r5) := by first | (rw [hy363]; with_reducible exact H) | (have H2_ := (Option.bind_some _ _).symm.trans H; rw [hy363]; with_reducible exact H2_) | (have H2_ := (Option.bind_some _ _).symm.trans H; with_reducible exact H2_) | with_reducible exact H | (rw [hy363]; exact H) | exact H
      have Ny363 := Aside0.mk hy363
      clear hy363
      have H' := Aside0.mk H
      clear H
      go_wp2_with (first | ((with_reducible refine gate_callee (f := 39) rfl ?_); refine goesL_ (some 7) rfl rfl Tryd.func39 (by kernel_rfl) rfl #[.pointer (some ⟨g, 0, none⟩)] rfl (by (try simp only [List.map_toArray, List.map_cons, List.map_nil]); first | done | rfl | (simp only [List.length_drop, List.length_take]; rfl)) ?_; (with_reducible refine (encode_Reader_More.calls g x1000_1 x1001_1 x1002_1 x1003_1 true t349 t350 t351 t352 w0 _ ?side1 ?side2 A4.out).mono ?_); (case side1 => repeat (first | (with_reducible first | exact HI0.out | apply IsS88.alloc | apply IsS88.drewN | apply IsS88.drew | apply IsS88.set_0 | apply IsS88.set_1 | apply IsS88.set_2 | apply IsS88.set_3) | exact HI0.out)); (case side2 => repeat (first | (with_reducible first | exact HB.out | apply below_alloc | apply pw_below_drewN | apply below_drew1 | refine below_set ?_ (IsS88.ge HI0.out)) | exact HB.out)); rintro e w10 ⟨rfl, hi, hb, hk⟩; refine ⟨_, rfl, ?_⟩; have n0_ := Aside0.mk (Kd.R_mono (Kd.R_keep (IsS88.apart (show IsS88 w0 _ g x1000_1 x1001_1 x1002_1 x1003_1 from by repeat (first | (with_reducible first | exact HI0.out | apply IsS88.alloc | apply IsS88.drewN | apply IsS88.drew | apply IsS88.set_0 | apply IsS88.set_1 | apply IsS88.set_2 | apply IsS88.set_3) | exact HI0.out)) (by (with_reducible repeat (first | apply Kd.R_alloc | apply Kd.R_drewN | apply Kd.R_drew)); exact HO_3.out) (by decide)) hk (fun _ h => h.2)) (fun _ h => h.1)); have n1_ := Aside0.mk (KeepBut.trans (by repeat (first | (with_reducible first | exact HK.out | apply KeepBut.set_ | apply keep_drewN | apply keep_drew | apply keep_alloc) | exact HK.out)) hk (.inl rfl)); have n2_ := Aside0.mk (hb); have n3_ := Aside0.mk (hi); clear HO_3; clear HK; clear HB; clear HI0; have HO_3 := n0_; have HK := n1_; have HB := n2_; have HI0 := n3_; clear n0_ n1_ n2_ n3_; (try clear hb); (try clear hb2); (try clear hk); (try clear hi)) | (go_at_call 40; (with_reducible refine (encode_Reader_Err.calls g t349 t350 t351 t352 t353 t354 t355 t356 t357 w0 _ ?side1 ?side2 A6.out).mono ?_); (case side1 => repeat (first | (with_reducible first | exact HI0.out | apply IsS88.alloc | apply IsS88.drewN | apply IsS88.drew | apply IsS88.set_0 | apply IsS88.set_1 | apply IsS88.set_2 | apply IsS88.set_3) | exact HI0.out)); (case side2 => repeat (first | (with_reducible first | exact HB.out | apply below_alloc | apply pw_below_drewN | apply below_drew1 | refine below_set ?_ (IsS88.ge HI0.out)) | exact HB.out)); rintro e w11 ⟨rfl, hi, hb, hk⟩; have n0_ := Aside0.mk (Kd.R_mono (Kd.R_keep (IsS88.apart (show IsS88 w0 _ g t349 t350 t351 t352 from by repeat (first | (with_reducible first | exact HI0.out | apply IsS88.alloc | apply IsS88.drewN | apply IsS88.drew | apply IsS88.set_0 | apply IsS88.set_1 | apply IsS88.set_2 | apply IsS88.set_3) | exact HI0.out)) (by (with_reducible repeat (first | apply Kd.R_alloc | apply Kd.R_drewN | apply Kd.R_drew)); exact HO_3.out) (by decide)) hk (fun _ h => h.2)) (fun _ h => h.1)); have n1_ := Aside0.mk (KeepBut.trans (by repeat (first | (with_reducible first | exact HK.out | apply KeepBut.set_ | apply keep_drewN | apply keep_drew | apply keep_alloc) | exact HK.out)) hk (.inl rfl)); have n2_ := Aside0.mk (hb); have n3_ := Aside0.mk (hi); clear HO_3; clear HK; clear HB; clear HI0; have HO_3 := n0_; have HK := n1_; have HB := n2_; have HI0 := n3_; clear n0_ n1_ n2_ n3_; (try clear hb); (try clear hb2); (try clear hk); (try clear hi)) | ((with_reducible refine gate_callee (f := 59) rfl ?_); refine goesL_ (some 15) rfl rfl Tryd.func59 (by kernel_rfl) rfl #[.pointer (some ⟨g, 0, none⟩)] rfl (by (try simp only [List.map_toArray, List.map_cons, List.map_nil]); first | done | rfl | (simp only [List.length_drop, List.length_take]; rfl)) ?_; (with_reducible refine (Go.Proofs.YtfpopmojlmpopaaDoor.H.encode_Reader_Text.calls g t354 t355 t356 t357 t358 t359 t360 t361 t362 w0 _ ?side1 ?side2 ?side3 A8.out).mono ?_); (case side1 => exact HLd.out); (case side2 => repeat (first | (with_reducible first | exact HI0.out | apply IsS88.alloc | apply IsS88.drewN | apply IsS88.drew | apply IsS88.set_0 | apply IsS88.set_1 | apply IsS88.set_2 | apply IsS88.set_3) | exact HI0.out)); (case side3 => repeat (first | (with_reducible first | exact HB.out | apply below_alloc | apply pw_below_drewN | apply below_drew1 | refine below_set ?_ (IsS88.ge HI0.out)) | exact HB.out)); rintro e w12 ⟨rfl, hi, hb, hk⟩; refine ⟨_, rfl, ?_⟩; have n0_ := Aside0.mk (Kd.R_mono (Kd.R_keep (IsS88.apart (show IsS88 w0 _ g t354 t355 t356 t357 from by repeat (first | (with_reducible first | exact HI0.out | apply IsS88.alloc | apply IsS88.drewN | apply IsS88.drew | apply IsS88.set_0 | apply IsS88.set_1 | apply IsS88.set_2 | apply IsS88.set_3) | exact HI0.out)) (by (with_reducible repeat (first | apply Kd.R_alloc | apply Kd.R_drewN | apply Kd.R_drew)); exact HO_3.out) (by decide)) hk (fun _ h => h.2)) (fun _ h => h.1)); have n1_ := Aside0.mk (KeepBut.trans (by repeat (first | (with_reducible first | exact HK.out | apply KeepBut.set_ | apply keep_drewN | apply keep_drew | apply keep_alloc) | exact HK.out)) hk (.inl rfl)); have n2_ := Aside0.mk (hb); have n3_ := Aside0.mk (hi); clear HO_3; clear HK; clear HB; clear HI0; have HO_3 := n0_; have HK := n1_; have HB := n2_; have HI0 := n3_; clear n0_ n1_ n2_ n3_; (try clear hb); (try clear hb2); (try clear hk); (try clear hi)) | ((with_reducible refine gate_builtin (b := .append) (xs := #[.tmp 13, .tmp 16]) rfl ?_); at_builtin; refine Kd.R_append Kd.string w.heap.size rfl (.tmp 13) (.tmp 16) 28 9 (.string ⟨#[]⟩) 16 rfl Tryd.underlying28 info9 rfl (by decide) (by omega) u3 x3_1 t358 [.string t358] (fun _ => True) (fun _ => False) rfl rfl ?aP (fun _ hk => hk.elim) ?aF ?aO (Below.refl _ _) ?aS ?aL ?_; (case aP => exact rfl); (case aF => exact (fun _ _ => trivial)); (case aO => exact (by (with_reducible repeat (first | apply Kd.R_alloc | apply Kd.R_drewN | apply Kd.R_drew)); exact HO_3.out)); (case aS => exact (keep_size (w := w) (g := g) (row := none) (by repeat (first | (with_reducible first | exact HK.out | apply KeepBut.set_ | apply keep_drewN | apply keep_drew | apply keep_alloc) | exact HK.out)))); (case aL => have := LMc9.out; omega); intro v364 w13 ho hb hg hat; rw [← Ny363.out] at ho; have n0_ := Aside0.mk (IsS88.grown (by repeat (first | (with_reducible first | exact HI0.out | apply IsS88.alloc | apply IsS88.drewN | apply IsS88.drew | apply IsS88.set_0 | apply IsS88.set_1 | apply IsS88.set_2 | apply IsS88.set_3) | exact HI0.out)) hg (IsS88.own_ne HI0.out HO_3.out (by decide))); have n1_ := Aside0.mk (below_weaken (by repeat (first | (with_reducible first | exact HB.out | apply below_alloc | apply pw_below_drewN | apply below_drew1 | refine below_set ?_ (IsS88.ge HI0.out)) | exact HB.out)) HL.out hb); have n2_ := Aside0.mk (KeepBut.trans (by repeat (first | (with_reducible first | exact HK.out | apply KeepBut.set_ | apply keep_drewN | apply keep_drew | apply keep_alloc) | exact HK.out)) (KeepBut.of_grown hg g) (Kd.R_base2 HO_3.out)); have n3_ := Aside0.mk (ho); clear HI0; clear HB; clear HK; clear HO_3; have HI0 := n0_; have HB := n1_; have HK := n2_; have HO365 := n3_; clear n0_ n1_ n2_ n3_; clear ho hb hg hat))
      go_roundg k1
      case measure => have := HK1.out; omega
      case rel => exact ⟨(y363), (t359), (t360), (t361), (t362), H', ⟨by have := HK1.out; omega⟩, ⟨by (with_reducible repeat (first | apply Kd.R_alloc | apply Kd.R_drewN | apply Kd.R_drew)); exact HO365.out⟩, ⟨by repeat (first | (with_reducible first | exact HI0.out | apply IsS88.alloc | apply IsS88.drewN | apply IsS88.drew | apply IsS88.set_0 | apply IsS88.set_1 | apply IsS88.set_2 | apply IsS88.set_3) | exact HI0.out)⟩, ⟨by repeat (first | (with_reducible first | exact HK.out | apply KeepBut.set_ | apply keep_drewN | apply keep_drew | apply keep_alloc) | exact HK.out)⟩, ⟨by repeat (first | (with_reducible first | exact HB.out | apply below_alloc | apply pw_below_drewN | apply below_drew1 | refine below_set ?_ (IsS88.ge HI0.out)) | exact HB.out)⟩⟩
     ·rw [if_neg c9] at H
      exact absurd H (by simp)
    ·rw [if_neg c7] at H
     have c7b0 : (t353 == 0) = false := beq_eq_false_iff_ne.mpr c7
     have c7b1 : (t353 != 0) = true := bne_iff_ne.mpr c7
     replace H := Option.bind_eq_some_iff.mp H
     obtain ⟨⟨t366, t367, t368, t369⟩, A140, H⟩ := H
     replace H : (some (x3_1, t366, t367, t368, t369)) = some (r1, r2, r3, r4, r5) := H
     have A14 := Aside0.mk A140
     clear A140
     simp only [Option.some.injEq, Prod.mk.injEq] at H
     obtain ⟨rfl, rfl, rfl, rfl, rfl⟩ := H
     go_wp2_with (first | ((with_reducible refine gate_callee (f := 39) rfl ?_); refine goesL_ (some 7) rfl rfl Tryd.func39 (by kernel_rfl) rfl #[.pointer (some ⟨g, 0, none⟩)] rfl (by (try simp only [List.map_toArray, List.map_cons, List.map_nil]); first | done | rfl | (simp only [List.length_drop, List.length_take]; rfl)) ?_; (with_reducible refine (encode_Reader_More.calls g x1000_1 x1001_1 x1002_1 x1003_1 true t349 t350 t351 t352 w0 _ ?side1 ?side2 A4.out).mono ?_); (case side1 => repeat (first | (with_reducible first | exact HI0.out | apply IsS88.alloc | apply IsS88.drewN | apply IsS88.drew | apply IsS88.set_0 | apply IsS88.set_1 | apply IsS88.set_2 | apply IsS88.set_3) | exact HI0.out)); (case side2 => repeat (first | (with_reducible first | exact HB.out | apply below_alloc | apply pw_below_drewN | apply below_drew1 | refine below_set ?_ (IsS88.ge HI0.out)) | exact HB.out)); rintro e w15 ⟨rfl, hi, hb, hk⟩; refine ⟨_, rfl, ?_⟩; have n0_ := Aside0.mk (Kd.R_mono (Kd.R_keep (IsS88.apart (show IsS88 w0 _ g x1000_1 x1001_1 x1002_1 x1003_1 from by repeat (first | (with_reducible first | exact HI0.out | apply IsS88.alloc | apply IsS88.drewN | apply IsS88.drew | apply IsS88.set_0 | apply IsS88.set_1 | apply IsS88.set_2 | apply IsS88.set_3) | exact HI0.out)) (by (with_reducible repeat (first | apply Kd.R_alloc | apply Kd.R_drewN | apply Kd.R_drew)); exact HO_3.out) (by decide)) hk (fun _ h => h.2)) (fun _ h => h.1)); have n1_ := Aside0.mk (KeepBut.trans (by repeat (first | (with_reducible first | exact HK.out | apply KeepBut.set_ | apply keep_drewN | apply keep_drew | apply keep_alloc) | exact HK.out)) hk (.inl rfl)); have n2_ := Aside0.mk (hb); have n3_ := Aside0.mk (hi); clear HO_3; clear HK; clear HB; clear HI0; have HO_3 := n0_; have HK := n1_; have HB := n2_; have HI0 := n3_; clear n0_ n1_ n2_ n3_; (try clear hb); (try clear hb2); (try clear hk); (try clear hi)) | (go_at_call 40; (with_reducible refine (encode_Reader_Err.calls g t349 t350 t351 t352 t353 t354 t355 t356 t357 w0 _ ?side1 ?side2 A6.out).mono ?_); (case side1 => repeat (first | (with_reducible first | exact HI0.out | apply IsS88.alloc | apply IsS88.drewN | apply IsS88.drew | apply IsS88.set_0 | apply IsS88.set_1 | apply IsS88.set_2 | apply IsS88.set_3) | exact HI0.out)); (case side2 => repeat (first | (with_reducible first | exact HB.out | apply below_alloc | apply pw_below_drewN | apply below_drew1 | refine below_set ?_ (IsS88.ge HI0.out)) | exact HB.out)); rintro e w16 ⟨rfl, hi, hb, hk⟩; have n0_ := Aside0.mk (Kd.R_mono (Kd.R_keep (IsS88.apart (show IsS88 w0 _ g t349 t350 t351 t352 from by repeat (first | (with_reducible first | exact HI0.out | apply IsS88.alloc | apply IsS88.drewN | apply IsS88.drew | apply IsS88.set_0 | apply IsS88.set_1 | apply IsS88.set_2 | apply IsS88.set_3) | exact HI0.out)) (by (with_reducible repeat (first | apply Kd.R_alloc | apply Kd.R_drewN | apply Kd.R_drew)); exact HO_3.out) (by decide)) hk (fun _ h => h.2)) (fun _ h => h.1)); have n1_ := Aside0.mk (KeepBut.trans (by repeat (first | (with_reducible first | exact HK.out | apply KeepBut.set_ | apply keep_drewN | apply keep_drew | apply keep_alloc) | exact HK.out)) hk (.inl rfl)); have n2_ := Aside0.mk (hb); have n3_ := Aside0.mk (hi); clear HO_3; clear HK; clear HB; clear HI0; have HO_3 := n0_; have HK := n1_; have HB := n2_; have HI0 := n3_; clear n0_ n1_ n2_ n3_; (try clear hb); (try clear hb2); (try clear hk); (try clear hi)) | ((with_reducible refine gate_callee (f := 41) rfl ?_); refine goesL_ (some 19) rfl rfl Tryd.func41 (by kernel_rfl) rfl #[.pointer (some ⟨g, 0, none⟩)] rfl (by (try simp only [List.map_toArray, List.map_cons, List.map_nil]); first | done | rfl | (simp only [List.length_drop, List.length_take]; rfl)) ?_; (with_reducible refine (encode_Reader_Close.calls g t354 t355 t356 t357 t366 t367 t368 t369 w0 _ ?side1 ?side2 A14.out).mono ?_); (case side1 => repeat (first | (with_reducible first | exact HI0.out | apply IsS88.alloc | apply IsS88.drewN | apply IsS88.drew | apply IsS88.set_0 | apply IsS88.set_1 | apply IsS88.set_2 | apply IsS88.set_3) | exact HI0.out)); (case side2 => repeat (first | (with_reducible first | exact HB.out | apply below_alloc | apply pw_below_drewN | apply below_drew1 | refine below_set ?_ (IsS88.ge HI0.out)) | exact HB.out)); rintro e w17 ⟨rfl, hi, hb, hk⟩; refine ⟨_, rfl, ?_⟩; have n0_ := Aside0.mk (Kd.R_mono (Kd.R_keep (IsS88.apart (show IsS88 w0 _ g t354 t355 t356 t357 from by repeat (first | (with_reducible first | exact HI0.out | apply IsS88.alloc | apply IsS88.drewN | apply IsS88.drew | apply IsS88.set_0 | apply IsS88.set_1 | apply IsS88.set_2 | apply IsS88.set_3) | exact HI0.out)) (by (with_reducible repeat (first | apply Kd.R_alloc | apply Kd.R_drewN | apply Kd.R_drew)); exact HO_3.out) (by decide)) hk (fun _ h => h.2)) (fun _ h => h.1)); have n1_ := Aside0.mk (KeepBut.trans (by repeat (first | (with_reducible first | exact HK.out | apply KeepBut.set_ | apply keep_drewN | apply keep_drew | apply keep_alloc) | exact HK.out)) hk (.inl rfl)); have n2_ := Aside0.mk (hb); have n3_ := Aside0.mk (hi); clear HO_3; clear HK; clear HB; clear HI0; have HO_3 := n0_; have HK := n1_; have HB := n2_; have HI0 := n3_; clear n0_ n1_ n2_ n3_; (try clear hb); (try clear hb2); (try clear hk); (try clear hi)))
     go_ret
     exact ⟨_, by first | rfl | (simp [errW_none, errW_some] <;> rfl) | (simp [*, errW_none, errW_some] <;> rfl), by (with_reducible repeat (first | apply Kd.R_alloc | apply Kd.R_drewN | apply Kd.R_drew)); exact HO_3.out, by repeat (first | (with_reducible first | exact HI0.out | apply IsS88.alloc | apply IsS88.drewN | apply IsS88.drew | apply IsS88.set_0 | apply IsS88.set_1 | apply IsS88.set_2 | apply IsS88.set_3) | exact HI0.out), by repeat (first | (with_reducible first | exact HB.out | apply below_alloc | apply pw_below_drewN | apply below_drew1 | refine below_set ?_ (IsS88.ge HI0.out)) | exact HB.out), by repeat (first | (with_reducible first | exact HK.out | apply KeepBut.set_ | apply keep_drewN | apply keep_drew | apply keep_alloc) | exact HK.out)⟩
   ·replace c5 := Bool.eq_false_iff.mpr c5
    subst c5
    have H1 : ((encode_Reader_Close.f t349 t350 t351 t352).bind fun bt370 => (some (x3_1, bt370.1, bt370.2.1, bt370.2.2.1, bt370.2.2.2))) = some (r1, r2, r3, r4, r5) := by rw [if_neg (show ¬ (false = true) by decide)] at H; exact H
    clear H
    have H := H1
    clear H1
    replace H := Option.bind_eq_some_iff.mp H
    obtain ⟨⟨t370, t371, t372, t373⟩, A180, H⟩ := H
    replace H : (some (x3_1, t370, t371, t372, t373)) = some (r1, r2, r3, r4, r5) := H
    have A18 := Aside0.mk A180
    clear A180
    simp only [Option.some.injEq, Prod.mk.injEq] at H
    obtain ⟨rfl, rfl, rfl, rfl, rfl⟩ := H
    go_wp2_with (first | ((with_reducible refine gate_callee (f := 39) rfl ?_); refine goesL_ (some 7) rfl rfl Tryd.func39 (by kernel_rfl) rfl #[.pointer (some ⟨g, 0, none⟩)] rfl (by (try simp only [List.map_toArray, List.map_cons, List.map_nil]); first | done | rfl | (simp only [List.length_drop, List.length_take]; rfl)) ?_; (with_reducible refine (encode_Reader_More.calls g x1000_1 x1001_1 x1002_1 x1003_1 false t349 t350 t351 t352 w0 _ ?side1 ?side2 A4.out).mono ?_); (case side1 => repeat (first | (with_reducible first | exact HI0.out | apply IsS88.alloc | apply IsS88.drewN | apply IsS88.drew | apply IsS88.set_0 | apply IsS88.set_1 | apply IsS88.set_2 | apply IsS88.set_3) | exact HI0.out)); (case side2 => repeat (first | (with_reducible first | exact HB.out | apply below_alloc | apply pw_below_drewN | apply below_drew1 | refine below_set ?_ (IsS88.ge HI0.out)) | exact HB.out)); rintro e w19 ⟨rfl, hi, hb, hk⟩; refine ⟨_, rfl, ?_⟩; have n0_ := Aside0.mk (Kd.R_mono (Kd.R_keep (IsS88.apart (show IsS88 w0 _ g x1000_1 x1001_1 x1002_1 x1003_1 from by repeat (first | (with_reducible first | exact HI0.out | apply IsS88.alloc | apply IsS88.drewN | apply IsS88.drew | apply IsS88.set_0 | apply IsS88.set_1 | apply IsS88.set_2 | apply IsS88.set_3) | exact HI0.out)) (by (with_reducible repeat (first | apply Kd.R_alloc | apply Kd.R_drewN | apply Kd.R_drew)); exact HO_3.out) (by decide)) hk (fun _ h => h.2)) (fun _ h => h.1)); have n1_ := Aside0.mk (KeepBut.trans (by repeat (first | (with_reducible first | exact HK.out | apply KeepBut.set_ | apply keep_drewN | apply keep_drew | apply keep_alloc) | exact HK.out)) hk (.inl rfl)); have n2_ := Aside0.mk (hb); have n3_ := Aside0.mk (hi); clear HO_3; clear HK; clear HB; clear HI0; have HO_3 := n0_; have HK := n1_; have HB := n2_; have HI0 := n3_; clear n0_ n1_ n2_ n3_; (try clear hb); (try clear hb2); (try clear hk); (try clear hi)) | ((with_reducible refine gate_callee (f := 41) rfl ?_); refine goesL_ (some 19) rfl rfl Tryd.func41 (by kernel_rfl) rfl #[.pointer (some ⟨g, 0, none⟩)] rfl (by (try simp only [List.map_toArray, List.map_cons, List.map_nil]); first | done | rfl | (simp only [List.length_drop, List.length_take]; rfl)) ?_; (with_reducible refine (encode_Reader_Close.calls g t349 t350 t351 t352 t370 t371 t372 t373 w0 _ ?side1 ?side2 A18.out).mono ?_); (case side1 => repeat (first | (with_reducible first | exact HI0.out | apply IsS88.alloc | apply IsS88.drewN | apply IsS88.drew | apply IsS88.set_0 | apply IsS88.set_1 | apply IsS88.set_2 | apply IsS88.set_3) | exact HI0.out)); (case side2 => repeat (first | (with_reducible first | exact HB.out | apply below_alloc | apply pw_below_drewN | apply below_drew1 | refine below_set ?_ (IsS88.ge HI0.out)) | exact HB.out)); rintro e w20 ⟨rfl, hi, hb, hk⟩; refine ⟨_, rfl, ?_⟩; have n0_ := Aside0.mk (Kd.R_mono (Kd.R_keep (IsS88.apart (show IsS88 w0 _ g t349 t350 t351 t352 from by repeat (first | (with_reducible first | exact HI0.out | apply IsS88.alloc | apply IsS88.drewN | apply IsS88.drew | apply IsS88.set_0 | apply IsS88.set_1 | apply IsS88.set_2 | apply IsS88.set_3) | exact HI0.out)) (by (with_reducible repeat (first | apply Kd.R_alloc | apply Kd.R_drewN | apply Kd.R_drew)); exact HO_3.out) (by decide)) hk (fun _ h => h.2)) (fun _ h => h.1)); have n1_ := Aside0.mk (KeepBut.trans (by repeat (first | (with_reducible first | exact HK.out | apply KeepBut.set_ | apply keep_drewN | apply keep_drew | apply keep_alloc) | exact HK.out)) hk (.inl rfl)); have n2_ := Aside0.mk (hb); have n3_ := Aside0.mk (hi); clear HO_3; clear HK; clear HB; clear HI0; have HO_3 := n0_; have HK := n1_; have HB := n2_; have HI0 := n3_; clear n0_ n1_ n2_ n3_; (try clear hb); (try clear hb2); (try clear hk); (try clear hi)))
    go_ret
    exact ⟨_, by first | rfl | (simp [errW_none, errW_some] <;> rfl) | (simp [*, errW_none, errW_some] <;> rfl), by (with_reducible repeat (first | apply Kd.R_alloc | apply Kd.R_drewN | apply Kd.R_drew)); exact HO_3.out, by repeat (first | (with_reducible first | exact HI0.out | apply IsS88.alloc | apply IsS88.drewN | apply IsS88.drew | apply IsS88.set_0 | apply IsS88.set_1 | apply IsS88.set_2 | apply IsS88.set_3) | exact HI0.out), by repeat (first | (with_reducible first | exact HB.out | apply below_alloc | apply pw_below_drewN | apply below_drew1 | refine below_set ?_ (IsS88.ge HI0.out)) | exact HB.out), by repeat (first | (with_reducible first | exact HK.out | apply KeepBut.set_ | apply keep_drewN | apply keep_drew | apply keep_alloc) | exact HK.out)⟩
end Go.Proofs.YtfpopmojlmpopaaDoor.G

end
section
namespace Go.Proofs.YtfpopmojlmpopaaDoor.G
open Go.RowKit Go.Proofs.YtfpopmojlmpopaaDoorW.PrintWords Go.Proofs.YtfpopmojlmpopaaDoorW.PrintLast Go.Proofs.YtfpopmojlmpopaaDoorW.PrintMore
attribute [local go_sem] max2_int min2_int max_two min_two max_three min_three max_four min_four
set_option linter.unusedVariables false
set_option linter.unusedSimpArgs false
def encode_NewReader.f (a0 : ByteArray) : Option (ByteArray × Int × Int × Int) := some (a0, 0, 0, 0)
set_option maxHeartbeats 8000000 in
set_option maxRecDepth 100000 in
theorem encode_NewReader.calls (a0 : ByteArray) (r1 : ByteArray) (r2 : Int) (r3 : Int) (r4 : Int) (w0 w : World) (hB : Below w0.heap.size w0 w) (h : encode_NewReader.f a0 = some (r1, r2, r3, r4)) :
  Calls Tryd.prog 35 #[.string a0] w fun e w' => ∃ g_ : Nat, e = .returned (.pointer (some ⟨g_, 0, none⟩)) ∧ IsS88 w0 w' g_ r1 r2 r3 r4 ∧ Below w0.heap.size w0 w' ∧ Below w.heap.size w w' := by
 have hu88 := Tryd.underlying88
 have HBW := Aside0.mk (Below.refl w.heap.size w)
 have HW0 := Aside0.mk hB.size
 have HB := Aside0.mk hB
 clear hB
 have H : (some (a0, 0, 0, 0)) = some (r1, r2, r3, r4) := h
 clear h
 simp only [Option.some.injEq, Prod.mk.injEq] at H
 obtain ⟨rfl, rfl, rfl, rfl⟩ := H
 go_enter Tryd.func35, Tryd.ntmps35
 go_wp2_with (first | ((with_reducible refine gate_dst (N := 5) rfl ?_); refine box_event ?hg (N := 5) ?hd (cs := #[.string a0, .int .i64 0, .int .i64 0, .int .i64 0]) (t := 88) ?hr ?_; (case hd => rfl); (case hg => rfl); (case hr => first | (go_simp; done) | (go_simp; rfl)); intro gb374 hg w2 hbox hb; have n0_ := Aside0.mk (below_step HBW.out hb); have n1_ := Aside0.mk (below_step (by repeat (first | (with_reducible first | exact HB.out | apply below_alloc | apply pw_below_drewN | apply below_drew1) | exact HB.out)) hb); have n2_ := Aside0.mk (hbox); have n3_ := Aside0.mk ((by rw [hg]; exact (below_size (by repeat (first | (with_reducible first | exact HBW.out | apply below_alloc | apply pw_below_drewN | apply below_drew1) | exact HBW.out))) : w.heap.size ≤ gb374)); have n4_ := Aside0.mk ((Nat.le_trans HW0.out (by rw [hg]; exact (below_size (by repeat (first | (with_reducible first | exact HBW.out | apply below_alloc | apply pw_below_drewN | apply below_drew1) | exact HBW.out))) : w.heap.size ≤ gb374) : w0.heap.size ≤ gb374)); clear HBW; clear HB; have HBW := n0_; have HB := n1_; have BK374 := n2_; have GW374 := n3_; have GE374 := n4_; clear n0_ n1_ n2_ n3_ n4_; clear hb hbox hg))
 go_ret
 exact ⟨_, rfl, (show IsS88 w0 _ gb374 a0 0 0 0 from ⟨by (with_reducible repeat (first | refine blk_drewN ?_ _ | refine blk_drew ?_ | refine blk_alloc ?_ _)); exact BK374.out, GE374.out⟩), by repeat (first | (with_reducible first | exact HB.out | apply below_alloc | apply pw_below_drewN | apply below_drew1 | refine below_set ?_ GE374.out) | exact HB.out), by repeat (first | (with_reducible first | exact HBW.out | apply below_alloc | apply pw_below_drewN | apply below_drew1 | refine below_set ?_ GW374.out) | exact HBW.out)⟩
end Go.Proofs.YtfpopmojlmpopaaDoor.G

end
