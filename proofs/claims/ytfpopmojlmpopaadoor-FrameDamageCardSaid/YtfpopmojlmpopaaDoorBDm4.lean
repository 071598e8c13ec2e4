/-
  Part 4 of the proof: words about memory and rows, functions of the program as Lean functions with the contracts that its code comes to just their answers, and plain lemmas; no conditions of its own.
-/
import Derived.Test.YtfpopmojlmpopaaDoorBDm1
import Derived.Test.YtfpopmojlmpopaaDoorBDm3
section
namespace Go.Proofs.YtfpopmojlmpopaaDoor.G
open Go.RowKit Go.Proofs.YtfpopmojlmpopaaDoorW.PrintWords Go.Proofs.YtfpopmojlmpopaaDoorW.PrintLast Go.Proofs.YtfpopmojlmpopaaDoorW.PrintMore
attribute [local go_sem] max2_int min2_int max_two min_two max_three min_three max_four min_four
set_option linter.unusedVariables false
set_option linter.unusedSimpArgs false
mutual
def frame_distances.l0 : Nat → List ByteArray → List ByteArray → List (List Int) → Int → Option ((List (List Int)))
 | 0, _, _, _, _ => none
 | k + 1, x0, x1, x5, x6 => if x6 ≥ 0 then (if 0 ≤ (wrap64 ((x1.length : Int) + 1)) then (if (wrap64 ((x1.length : Int) + 1) : Int).toNat ≤ 140737488355328 then (if 0 ≤ x6 then (if x6 < (x5.length : Int) then (frame_distances.l1 k x0 x1 (x5.set (x6 : Int).toNat (List.replicate (wrap64 ((x1.length : Int) + 1) : Int).toNat 0)) x6 (x1.length : Int)) else (none)) else (none)) else (none)) else (none)) else (some x5)
def frame_distances.l1 : Nat → List ByteArray → List ByteArray → List (List Int) → Int → Int → Option ((List (List Int)))
 | 0, _, _, _, _, _ => none
 | k + 1, x0, x1, x5, x6, x7 => if x7 ≥ 0 then (if x6 = (x0.length : Int) then (if 0 ≤ x6 then (if x6 < (x5.length : Int) then (if 0 ≤ x7 then (if x7 < ((rd_L6 x5 x6).length : Int) then (frame_distances.l1 k x0 x1 (x5.set (x6 : Int).toNat ((rd_L6 x5 x6).set (x7 : Int).toNat (IntKind.u16.wrap (wrap64 ((x1.length : Int) - x7))))) x6 (wrap64 (x7 - 1))) else (none)) else (none)) else (none)) else (none)) else (if x7 = (x1.length : Int) then (if 0 ≤ x6 then (if x6 < (x5.length : Int) then (if 0 ≤ x7 then (if x7 < ((rd_L6 x5 x6).length : Int) then (frame_distances.l1 k x0 x1 (x5.set (x6 : Int).toNat ((rd_L6 x5 x6).set (x7 : Int).toNat (IntKind.u16.wrap (wrap64 ((x0.length : Int) - x6))))) x6 (wrap64 (x7 - 1))) else (none)) else (none)) else (none)) else (none)) else (if 0 ≤ x6 then (if x6 < (x0.length : Int) then (if 0 ≤ x7 then (if x7 < (x1.length : Int) then (if (rdOf ByteArray.empty x0 x6).toList = (rdOf ByteArray.empty x1 x7).toList then (if x6 < (x5.length : Int) then (if 0 ≤ (wrap64 (x6 + 1)) then (if (wrap64 (x6 + 1)) < (x5.length : Int) then (if 0 ≤ (wrap64 (x7 + 1)) then (if (wrap64 (x7 + 1)) < ((rd_L6 x5 (wrap64 (x6 + 1))).length : Int) then (if x7 < ((rd_L6 x5 x6).length : Int) then (frame_distances.l1 k x0 x1 (x5.set (x6 : Int).toNat ((rd_L6 x5 x6).set (x7 : Int).toNat (rd (rd_L6 x5 (wrap64 (x6 + 1))) (wrap64 (x7 + 1))))) x6 (wrap64 (x7 - 1))) else (none)) else (none)) else (none)) else (none)) else (none)) else (none)) else (if x6 < (x5.length : Int) then (if 0 ≤ (wrap64 (x6 + 1)) then (if (wrap64 (x6 + 1)) < (x5.length : Int) then (if x7 < ((rd_L6 x5 (wrap64 (x6 + 1))).length : Int) then (if 0 ≤ (wrap64 (x7 + 1)) then (if (wrap64 (x7 + 1)) < ((rd_L6 x5 x6).length : Int) then (if x7 < ((rd_L6 x5 x6).length : Int) then (frame_distances.l1 k x0 x1 (x5.set (x6 : Int).toNat ((rd_L6 x5 x6).set (x7 : Int).toNat (IntKind.u16.wrap (1 + (mn (rd (rd_L6 x5 (wrap64 (x6 + 1))) x7) (rd (rd_L6 x5 x6) (wrap64 (x7 + 1)))))))) x6 (wrap64 (x7 - 1))) else (none)) else (none)) else (none)) else (none)) else (none)) else (none)) else (none))) else (none)) else (none)) else (none)) else (none)))) else (frame_distances.l0 k x0 x1 x5 (wrap64 (x6 - 1)))
end
def frame_distances.f (k : Nat) (l0 : List ByteArray) (l1 : List ByteArray) : Option ((List (List Int))) := if 0 ≤ (wrap64 ((l0.length : Int) + 1)) then (if (wrap64 ((l0.length : Int) + 1) : Int).toNat ≤ 11728124029610 then (frame_distances.l0 k l0 l1 (List.replicate (wrap64 ((l0.length : Int) + 1) : Int).toNat []) (l0.length : Int)) else (none)) else (none)
def frame_distances.T9 : Bool × List (List Nat × List Nat) := (true, [([], []), ([], []), ([0, 1], [0, 1]), ([2], [2]), ([], []), ([], []), ([], []), ([6], [6]), ([5, 7], [5, 7]), ([8], [8]), ([], []), ([9, 10], [9, 10]), ([11], [11]), ([], []), ([], []), ([13, 14], [13, 14]), ([15], [15]), ([], []), ([17], [17]), ([16, 18], [16, 18]), ([19], [19]), ([12, 20], [12, 20]), ([21], [21]), ([3, 4, 0, 1, 2, 3, 4, 5, 6, 7, 8, 9, 10, 11, 12, 13, 14, 15, 16, 17, 18, 19, 20, 21, 22], [3, 4]), ([23, 22, 0, 1, 2, 3, 4, 5, 6, 7, 8, 9, 10, 11, 12, 13, 14, 15, 16, 17, 18, 19, 20, 21, 22], [22, 23])])
def frame_distances.B9 : List Nat := [0, 0, 3, 7, 0, 0, 0, 64, 224, 480, 0, 2016, 4064, 0, 0, 24576, 57344, 0, 131072, 516096, 1040384, 2097120, 4194272, 8388607, 16777215]
theorem frame_distances.tab9 : rtab .any (opsOf Tryd.f46 9) = frame_distances.T9 := by kernel_rfl
theorem frame_distances.bits9 : waitsOk frame_distances.T9.2 frame_distances.B9 = true := by kernel_rfl
def frame_distances.T14 : Bool × List (List Nat × List Nat) := (true, [([], []), ([], []), ([0, 1], [0, 1]), ([2], [2]), ([], []), ([], []), ([4, 5], [4, 5]), ([6], [6]), ([3, 7], [3, 7]), ([8], [8])])
def frame_distances.B14 : List Nat := [0, 0, 3, 7, 0, 0, 48, 112, 255, 511]
theorem frame_distances.tab14 : rtab .any (opsOf Tryd.f46 14) = frame_distances.T14 := by kernel_rfl
theorem frame_distances.bits14 : waitsOk frame_distances.T14.2 frame_distances.B14 = true := by kernel_rfl
def frame_distances.T15 : Bool × List (List Nat × List Nat) := (true, [([], []), ([], []), ([0, 1], [0, 1]), ([2], [2]), ([], []), ([], []), ([], []), ([6], [6]), ([5, 7], [5, 7]), ([8], [8]), ([], []), ([10], [10]), ([9, 11], [9, 11]), ([12], [12]), ([3, 4, 0, 1, 2, 3, 4, 5, 6, 7, 8, 9, 10, 11, 12, 13], [3, 4]), ([14, 13, 0, 1, 2, 3, 4, 5, 6, 7, 8, 9, 10, 11, 12, 13], [13, 14])])
def frame_distances.B15 : List Nat := [0, 0, 3, 7, 0, 0, 0, 64, 224, 480, 0, 1024, 4064, 8160, 16383, 32767]
theorem frame_distances.tab15 : rtab .any (opsOf Tryd.f46 15) = frame_distances.T15 := by kernel_rfl
theorem frame_distances.bits15 : waitsOk frame_distances.T15.2 frame_distances.B15 = true := by kernel_rfl
set_option maxHeartbeats 8000000 in
set_option maxRecDepth 100000 in
theorem frame_distances.calls (k : Nat) (A0 : Option Addr) (c0 : Nat) (l0 : List ByteArray) (A1 : Option Addr) (c1 : Nat) (l1 : List ByteArray) (r : List (List Int)) (w : World) (hr0 : Kd.C Kd.string w A0 l0.length l0) (hc0 : l0.length ≤ c0) (hr1 : Kd.C Kd.string w A1 l1.length l1) (hc1 : l1.length ≤ c1) (h : frame_distances.f k l0 l1 = some r) :
  Calls Tryd.prog 46 #[.slice A0 l0.length c0, .slice A1 l1.length c1] w fun e w' => ∃ v0_ : Value, e = .returned (v0_) ∧ Kd.S (Kd.slice 24 (Kd.int .u16)) 77 w' w.heap.size (fun _ => True) v0_ r ∧ Below w.heap.size w w' := by
 have HR0 := Aside0.mk hr0
 have HC0 := Aside0.mk hc0
 clear hr0 hc0
 have HR1 := Aside0.mk hr1
 have HC1 := Aside0.mk hc1
 clear hr1 hc1
 have HB := Aside0.mk (Below.refl w.heap.size w)
 have H : (if 0 ≤ (wrap64 ((l0.length : Int) + 1)) then (if (wrap64 ((l0.length : Int) + 1) : Int).toNat ≤ 11728124029610 then (frame_distances.l0 k l0 l1 (List.replicate (wrap64 ((l0.length : Int) + 1) : Int).toNat []) (l0.length : Int)) else (none)) else (none)) = some r := h
 clear h
 obtain ⟨ji3, hji3⟩ : ∃ j_ : Int, (wrap64 ((l0.length : Int) + 1)) = j_ := ⟨_, rfl⟩
 replace H : (if 0 ≤ (ji3) then (if (ji3 : Int).toNat ≤ 11728124029610 then (frame_distances.l0 k l0 l1 (List.replicate (ji3 : Int).toNat []) (l0.length : Int)) else (none)) else (none)) = some r := by first | (rw [hji3] at H; exact H) | (simp only [hji3] at H ⊢; exact H)
 have hji3w : (IntKind.i64.wrap ((l0.length : Int) + 1)) = ji3 := (i64_w _).trans hji3
 by_cases c4 : 0 ≤ (ji3)
 ·rw [if_pos c4] at H
  have c4b0 := eq_true c4
  have c4b1 : decide (0 ≤ (ji3)) = true := decide_eq_true c4
  clear c4
  by_cases c5 : (ji3 : Int).toNat ≤ 11728124029610
  ·rw [if_pos c5] at H
   have c5b0 := eq_true c5
   have c5b1 : decide ((ji3 : Int).toNat ≤ 11728124029610) = true := decide_eq_true c5
   clear c5
   obtain ⟨y375, hy375⟩ : ∃ y_ : List (List Int), y_ = (List.replicate (ji3 : Int).toNat []) := ⟨_, rfl⟩
   replace H : (frame_distances.l0 k l0 l1 y375 (l0.length : Int)) = some r := by first | (rw [hy375]; with_reducible exact H) | (have H2_ := (Option.bind_some _ _).symm.trans H; rw [hy375]; with_reducible exact H2_) | (have H2_ := (Option.bind_some _ _).symm.trans H; with_reducible exact H2_) | with_reducible exact H | (rw [hy375]; exact H) | exact H
   have Ny375 := Aside0.mk hy375
   clear hy375
   have H' := Aside0.mk H
   clear H
   go_enter Tryd.func46, Tryd.ntmps46
   go_wp2_with (first | ((with_reducible refine gate_dst (N := 11) rfl ?_); refine Kd.S_make (Kd.slice 24 (Kd.int .u16)) _ 77 rfl (N := 11) rfl 74 _ _ rfl ji3 rfl rfl Tryd.underlying74 (.slice none 0 0) 24 info77 rfl (by decide) (by omega) [] (ok := fun _ => True) (okp := fun _ => True) ⟨_, rfl, Kd.R_nil _ _ _ _ _⟩ (fun _ hk => hk) trivial (of_decide_eq_true (by first | (with_reducible assumption) | assumption)) (Nat.le_trans (Nat.mul_le_mul_right _ (of_decide_eq_true (by first | (with_reducible assumption) | assumption) : ji3.toNat ≤ 11728124029610)) (by omega)) (Below.refl _ _) (Nat.le_refl _) ?_; intro v376 w6 ho7 hb hg_ hnew_; clear hg_ hnew_; (first | rw [← Ny375.out] at ho7 | (simp only [Int.reduceToNat] at ho7; rw [← Ny375.out] at ho7)); have n0_ := Aside0.mk (Kd.S_lower ho7 (below_size (by repeat (first | (with_reducible first | exact HB.out | apply below_alloc | apply pw_below_drewN | apply below_drew1) | exact HB.out)))); have n1_ := Aside0.mk (below_step (by repeat (first | (with_reducible first | exact HB.out | apply below_alloc | apply pw_below_drewN | apply below_drew1) | exact HB.out)) hb); clear HB; have HO377 := n0_; have HB := n1_; clear n0_ n1_; clear hb ho7))
   go_loopg [6] k (fun kq v6 w' => ∃ (x5_1 : List (List Int)) (x6_1 : Int), v6 = .int .i64 x6_1 ∧ Aside0 (frame_distances.l0 kq l0 l1 x5_1 x6_1 = some r) ∧ Aside0 (kq ≤ k) ∧ Aside0 (Kd.S (Kd.slice 24 (Kd.int .u16)) 77 w' w.heap.size (fun _ => True) v376 x5_1) ∧ Aside0 (Below w.heap.size w w'))
   case atStart => exact ⟨(y375), ((l0.length : Int)), (by first | rfl | (simp; done) | (simp [*]; done)), H', ⟨Nat.le_refl _⟩, ⟨by (with_reducible repeat (first | apply Kd.S_alloc | apply Kd.S_drewN | apply Kd.S_drew)); exact HO377.out⟩, ⟨by repeat (first | (with_reducible first | exact HB.out | apply below_alloc | apply pw_below_drewN | apply below_drew1) | exact HB.out)⟩⟩
   case round =>
    clear H'
    try clear c1
    try clear p2
    try clear c4
    try clear c4b0
    try clear c4b1
    try clear c5
    try clear c5b0
    try clear c5b1
    try clear p6
    obtain ⟨x5_1, x6_1, rfl, HA, HK1, HO_5, HB⟩ := hrel
    cases gk with
    | zero => exact absurd HA.out (by simp [frame_distances.l0])
    | succ k1 =>
     have H := HA.out
     clear HA
     simp only [frame_distances.l0] at H
     by_cases c8 : x6_1 ≥ 0
     ·rw [if_pos c8] at H
      have c8b0 : decide (0 ≤ x6_1) = true := decide_eq_true c8
      clear c8
      obtain ⟨ji9, hji9⟩ : ∃ j_ : Int, (wrap64 ((l1.length : Int) + 1)) = j_ := ⟨_, rfl⟩
      replace H : (if 0 ≤ (ji9) then (if (ji9 : Int).toNat ≤ 140737488355328 then (if 0 ≤ x6_1 then (if x6_1 < (x5_1.length : Int) then (frame_distances.l1 k1 l0 l1 (x5_1.set (x6_1 : Int).toNat (List.replicate (ji9 : Int).toNat 0)) x6_1 (l1.length : Int)) else (none)) else (none)) else (none)) else (none)) = some r := by first | (rw [hji9] at H; exact H) | (simp only [hji9] at H ⊢; exact H)
      have hji9w : (IntKind.i64.wrap ((l1.length : Int) + 1)) = ji9 := (i64_w _).trans hji9
      by_cases c10 : 0 ≤ (ji9)
      ·rw [if_pos c10] at H
       have c10b0 := eq_true c10
       have c10b1 : decide (0 ≤ (ji9)) = true := decide_eq_true c10
       clear c10
       by_cases c11 : (ji9 : Int).toNat ≤ 140737488355328
       ·rw [if_pos c11] at H
        have c11b0 := eq_true c11
        have c11b1 : decide ((ji9 : Int).toNat ≤ 140737488355328) = true := decide_eq_true c11
        clear c11
        obtain ⟨y378, hy378⟩ : ∃ y_ : List Int, y_ = (List.replicate (ji9 : Int).toNat 0) := ⟨_, rfl⟩
        replace H : (if 0 ≤ x6_1 then (if x6_1 < (x5_1.length : Int) then (frame_distances.l1 k1 l0 l1 (x5_1.set (x6_1 : Int).toNat y378) x6_1 (l1.length : Int)) else (none)) else (none)) = some r := by first | (rw [hy378]; with_reducible exact H) | (have H2_ := (Option.bind_some _ _).symm.trans H; rw [hy378]; with_reducible exact H2_) | (have H2_ := (Option.bind_some _ _).symm.trans H; with_reducible exact H2_) | with_reducible exact H | (rw [hy378]; exact H) | exact H
        have Ny378 := Aside0.mk hy378
        clear hy378
        by_cases c12 : 0 ≤ x6_1
        ·rw [if_pos c12] at H
         have c12b0 : decide (0 ≤ x6_1) = true := decide_eq_true c12
         clear c12
         by_cases c13 : x6_1 < (x5_1.length : Int)
         ·rw [if_pos c13] at H
          have c13b0 : decide (x6_1 < (x5_1.length : Int)) = true := decide_eq_true c13
          clear c13
          obtain ⟨y381, hy381⟩ : ∃ y_ : List (List Int), y_ = (x5_1.set (x6_1 : Int).toNat y378) := ⟨_, rfl⟩
          replace H : (frame_distances.l1 k1 l0 l1 y381 x6_1 (l1.length : Int)) = some r := by first | (rw [hy381]; with_reducible exact H) | (have H2_ := (Option.bind_some _ _).symm.trans H; rw [hy381]; with_reducible exact H2_) | (have H2_ := (Option.bind_some _ _).symm.trans H; with_reducible exact H2_) | with_reducible exact H | (rw [hy381]; exact H) | exact H
          have Ny381 := Aside0.mk hy381
          clear hy381
          have H' := Aside0.mk H
          clear H
          go_wp2_with (first | ((with_reducible refine gate_dst (N := 23) rfl ?_); refine Kd.R_make (Kd.int .u16) _ 24 rfl (N := 23) rfl 77 _ _ rfl ji9 rfl rfl Tryd.underlying77 (.int .u16 0) 2 info24 rfl (by decide) (by omega) 0 (ok := fun _ => True) (okp := fun _ => True) rfl (fun _ hk => hk) trivial (of_decide_eq_true (by first | (with_reducible assumption) | assumption)) (Nat.le_trans (Nat.mul_le_mul_right _ (of_decide_eq_true (by first | (with_reducible assumption) | assumption) : ji9.toNat ≤ 140737488355328)) (by omega)) (Below.refl _ _) (Nat.le_refl _) ?_; intro v379 w15 ho16 hb hg_ hnew_; clear hg_ hnew_; (first | rw [← Ny378.out] at ho16 | (simp only [Int.reduceToNat] at ho16; rw [← Ny378.out] at ho16)); have n0_ := Aside0.mk (Kd.S_elder' (by (with_reducible repeat (first | apply Kd.S_alloc | apply Kd.S_drewN | apply Kd.S_drew)); exact HO_5.out) (Kd.R_base ho16) hb); have n1_ := Aside0.mk (Kd.R_lower ho16 (below_size (by repeat (first | (with_reducible first | exact HB.out | apply below_alloc | apply pw_below_drewN | apply below_drew1) | exact HB.out)))); have n2_ := Aside0.mk (below_step (by repeat (first | (with_reducible first | exact HB.out | apply below_alloc | apply pw_below_drewN | apply below_drew1) | exact HB.out)) hb); clear HO_5; clear HB; have HO_5 := n0_; have HO380 := n1_; have HB := n2_; clear n0_ n1_ n2_; clear hb ho16; have p14 : 0 ≤ (x6_1 : Int) := of_decide_eq_true (by first | (with_reducible assumption) | assumption); have q14 : (x6_1 : Int) < ((x5_1.length : Int) : Int) := of_decide_eq_true (by first | (with_reducible assumption) | assumption); obtain ⟨go14, co14, eo14, gb14, gl14, cl14, HG14⟩ := Kd.S_form HO_5.out (by omega); (first | cases eo14 | (injection eo14 with ea_ en_ ec_; (first | subst ea_ | (injection ea_ with ea_; subst ea_)); subst ec_; clear en_)); have GB14 := Aside0.mk gb14; have GG14 := Aside0.mk HG14; clear gb14 gl14 HG14; obtain ⟨_, ce14, hcl14, hM14, hcc14, hfr14, _, _⟩ := Kd.S_elem HO_5.out [] (x6_1 : Int) p14 q14; obtain ⟨ve14_0, rfl, ge14_0⟩ := hM14; have hx14_0 := hcc14 0 _ rfl; have hf14_0 := hfr14 0; (try simp only [show ((Kd.slice 24 (Kd.int .u16))).sz = 1 from rfl, Nat.mul_one, Nat.add_zero] at hx14_0); (try simp only [show ((Kd.slice 24 (Kd.int .u16))).sz = 1 from rfl, Nat.mul_one, Nat.add_zero] at hf14_0); (try clear hcl14); (try clear hcc14); (try clear hfr14); (try clear hM14); replace p14 := eq_true p14; replace q14 := eq_true q14; have n_ := Aside0.mk (Kd.S_mono (ok' := (fun k_ => some k_ ≠ (v379 : Value).ownBlock)) HO_5.out (fun k_ hk => hk.2)); clear HO_5; have HO_5 := n_; clear n_; have HX17 := Aside0.mk (show Kd.S (Kd.slice 24 (Kd.int .u16)) 77 w15 w.heap.size (fun k_ => ((fun _ => True)) k_ ∧ ¬ ((fun k_ => some k_ = (v379 : Value).ownBlock)) k_) (.slice (some ⟨go14, 0, none⟩) x5_1.length co14) x5_1 from (by (with_reducible repeat (first | apply Kd.S_alloc | apply Kd.S_drewN | apply Kd.S_drew)); exact Kd.S_mono HO_5.out (fun k_ hk => ⟨trivial, fun e_ => hk e_⟩))); obtain ⟨oki17, ce17, hcl17, hM17, hcc17, hfr17, hoki17, hH17⟩ := Kd.S_elem HX17.out [] (x6_1 : Int) (of_decide_eq_true (by first | (with_reducible assumption) | assumption)) (by have h_ : (x6_1 : Int) < ((x5_1.length : Int) : Int) := of_decide_eq_true (by first | (with_reducible assumption) | assumption); first | exact h_ | (have e_ := (Kd.S_reads' HO_5.out).1; omega) | simpa using h_); obtain ⟨ve17_0, rfl, ge17_0⟩ := hM17; have HP17 := Kd.S_seg hH17 (of_decide_eq_true (by first | (with_reducible assumption) | assumption)) (by have h_ : (x6_1 : Int) < ((x5_1.length : Int) : Int) := of_decide_eq_true (by first | (with_reducible assumption) | assumption); first | exact h_ | (have e_ := (Kd.S_reads' HO_5.out).1; omega) | simpa using h_) (seg := [v379]) (j := 0) (show 1 ≤ 1 from by decide) (x' := y378) (Kd.M_row (Kd.R_mono (Kd.R_tight rfl (Kd.R_mono (ok' := fun k_ => ((fun _ => True)) k_ ∧ k_ ≠ go14) (Kd.R_apart' (HO380.out) (Kd.S_typed HO_5.out) (by decide)) (fun k_ hk => ⟨trivial, fun e_ => (hk.2) (by rw [e_]; rfl)⟩))) (fun _ h_ => Or.inr (h_)))) (fun _ hk => hk) (fun k_ hk_ => ((Kd.R_mono (ok' := fun k_ => ((fun _ => True)) k_ ∧ k_ ≠ go14) (Kd.R_apart' (HO380.out) (Kd.S_typed HO_5.out) (by decide)) (fun k_ hk => ⟨trivial, fun e_ => (hk.2) (by rw [e_]; rfl)⟩))).1 k_ hk_.symm); have hx17_0 := hcc17 0 _ rfl; (try simp only [show ((Kd.slice 24 (Kd.int .u16))).sz = 1 from rfl, Nat.mul_one, Nat.add_zero] at hx17_0); have hf17_0 := hfr17 0; (try simp only [show ((Kd.slice 24 (Kd.int .u16))).sz = 1 from rfl, Nat.mul_one, Nat.add_zero] at hf17_0); (try clear hcl17); (try clear hcc17); (try clear hfr17); (try clear hM17); (try clear hoki17); (try clear hH17); (try simp only [show ((Kd.slice 24 (Kd.int .u16))).sz = 1 from rfl, Nat.mul_one, Nat.add_zero] at HP17)) | ((with_reducible refine gate_store (t := 77) (p := 24) rfl ?_); obtain ⟨Av_, cv_, ev_, -, -⟩ := Kd.R_reads HO380.out; refine store_event (t := 77) (p := 24) (v := ?vo_w18) (w1 := (w15.setCell ⟨go14, (x6_1 : Int).toNat, none⟩ (v379))) ?hg ?ho ?hn ?hr ?_; (case ho => rfl); (case hg => rfl); (case hn => rfl); (case hr => first | (go_simp; done) | (go_simp; rfl)); clear ev_; intro w18 hw; have hg : w15.grownBy w18 (some go14) := (by rw [hw]; exact HP17.2); have hp_ : Kd.S (Kd.slice 24 (Kd.int .u16)) 77 w18 w.heap.size (fun _ => True) (.slice (some ⟨go14, 0, none⟩) x5_1.length co14) y381 := (by rw [hw, Ny381.out]; exact HP17.1); clear HP17; have n0_ := Aside0.mk (hp_); have n1_ := Aside0.mk ((by rw [hw]; exact below_set (HB.out) GB14.out : Below w.heap.size w w18)); clear HO_5; clear HB; clear HO380; have HO_5 := n0_; have HB := n1_; clear n0_ n1_; clear hg hw hp_))
          go_loopg [7] k1 (fun kq v7 w' => ∃ (x5_2 : List (List Int)) (x7_2 : Int), v7 = .int .i64 x7_2 ∧ Aside0 (frame_distances.l1 kq l0 l1 x5_2 x6_1 x7_2 = some r) ∧ Aside0 (kq ≤ k1) ∧ Aside0 (Kd.S (Kd.slice 24 (Kd.int .u16)) 77 w' w.heap.size (fun _ => True) (.slice (some ⟨go14, 0, none⟩) x5_1.length co14) x5_2) ∧ Aside0 (Below w.heap.size w w'))
          case atStart => exact ⟨(y381), ((l1.length : Int)), (by first | rfl | (simp; done) | (simp [*]; done)), H', ⟨Nat.le_refl _⟩, ⟨by (with_reducible repeat (first | apply Kd.S_alloc | apply Kd.S_drewN | apply Kd.S_drew)); exact HO_5.out⟩, ⟨by repeat (first | (with_reducible first | exact HB.out | apply below_alloc | apply pw_below_drewN | apply below_drew1) | exact HB.out)⟩⟩
          case round =>
           clear H'
           try clear c1
           try clear p1
           try clear q1
           try clear hx1
           try clear p2
           try clear c4
           try clear c4b0
           try clear c4b1
           try clear c5
           try clear c5b0
           try clear c5b1
           try clear p6
           try clear c8
           try clear c8b0
           try clear c10
           try clear c10b0
           try clear c10b1
           try clear c11
           try clear c11b0
           try clear c11b1
           try clear c12
           try clear c12b0
           try clear c13
           try clear c13b0
           try clear c14
           try clear p14
           try clear q14
           try clear hx14
           try clear hf14
           try clear c17
           try clear hx17
           try clear hf17
           try clear hx14_0
           try clear hx17_0
           try clear p14
           try clear p2
           try clear p6
           try clear q14
           obtain ⟨x5_2, x7_2, rfl, HA, HK2, HO_5, HB⟩ := hrel
           have hl5_2 := (Kd.S_reads' HO_5.out).1
           rw [hl5_2] at HO_5
           (try simp only [hl5_2])
           cases gk with
           | zero => exact absurd HA.out (by simp [frame_distances.l1])
           | succ k2 =>
            have H := HA.out
            clear HA
            simp only [frame_distances.l1] at H
            by_cases c19 : x7_2 ≥ 0
            ·rw [if_pos c19] at H
             have c19b0 : decide (0 ≤ x7_2) = true := decide_eq_true c19
             clear c19
             by_cases c20 : x6_1 = (l0.length : Int)
             ·rw [if_pos c20] at H
              have c20b0 : (x6_1 == (l0.length : Int)) = true := beq_iff_eq.mpr c20
              have c20b1 : (x6_1 != (l0.length : Int)) = false := bne_eq_false_iff_eq.mpr c20
              clear c20
              by_cases c21 : 0 ≤ x6_1
              ·rw [if_pos c21] at H
               have c21b0 : decide (0 ≤ x6_1) = true := decide_eq_true c21
               clear c21
               by_cases c22 : x6_1 < (x5_2.length : Int)
               ·rw [if_pos c22] at H
                have c22b0 : decide (x6_1 < (x5_2.length : Int)) = true := decide_eq_true c22
                clear c22
                by_cases c23 : 0 ≤ x7_2
                ·rw [if_pos c23] at H
                 have c23b0 : decide (0 ≤ x7_2) = true := decide_eq_true c23
                 clear c23
                 by_cases c24 : x7_2 < ((rd_L6 x5_2 x6_1).length : Int)
                 ·rw [if_pos c24] at H
                  have c24b0 : decide (x7_2 < ((rd_L6 x5_2 x6_1).length : Int)) = true := decide_eq_true c24
                  clear c24
                  obtain ⟨y383, hy383⟩ : ∃ y_ : List Int, y_ = ((rd_L6 x5_2 x6_1).set (x7_2 : Int).toNat (IntKind.u16.wrap (wrap64 ((l1.length : Int) - x7_2)))) := ⟨_, rfl⟩
                  replace H : (frame_distances.l1 k2 l0 l1 (x5_2.set (x6_1 : Int).toNat y383) x6_1 (wrap64 (x7_2 - 1))) = some r := by first | (rw [hy383]; with_reducible exact H) | (have H2_ := (Option.bind_some _ _).symm.trans H; rw [hy383]; with_reducible exact H2_) | (have H2_ := (Option.bind_some _ _).symm.trans H; with_reducible exact H2_) | with_reducible exact H | (rw [hy383]; exact H) | exact H
                  have Ny383 := Aside0.mk hy383
                  clear hy383
                  obtain ⟨y385, hy385⟩ : ∃ y_ : List (List Int), y_ = (x5_2.set (x6_1 : Int).toNat y383) := ⟨_, rfl⟩
                  replace H : (frame_distances.l1 k2 l0 l1 y385 x6_1 (wrap64 (x7_2 - 1))) = some r := by first | (rw [hy385]; with_reducible exact H) | (have H2_ := (Option.bind_some _ _).symm.trans H; rw [hy385]; with_reducible exact H2_) | (have H2_ := (Option.bind_some _ _).symm.trans H; with_reducible exact H2_) | with_reducible exact H | (rw [hy385]; exact H) | exact H
                  have Ny385 := Aside0.mk hy385
                  clear hy385
                  have H' := Aside0.mk H
                  clear H
                  have p382 : 0 ≤ (x6_1 : Int) := of_decide_eq_true (by first | (with_reducible assumption) | assumption)
                  have q382 : x6_1 < (x5_2.length : Int) := of_decide_eq_true (by first | (with_reducible assumption) | assumption)
                  obtain ⟨ad382, A382_0, c382_0, e382, hx382_0, hl382_0, hi382_0⟩ := at_L6 (Kd.S_reads' HO_5.out).2.2 x6_1 p382 q382
                  obtain rfl : (⟨go14, 0, none⟩ : Addr) = ad382 := (by injection e382)
                  obtain ⟨ce382, hce382, hMe382, hcc382⟩ := Kd.S_get HO_5.out [] x6_1 p382 (by first | exact q382 | exact of_decide_eq_true (by first | (with_reducible assumption) | assumption) | (have e_ := (Kd.S_reads' HO_5.out).1; omega))
                  obtain ⟨ve382_0, rfl, ge382_0⟩ := hMe382
                  have hv382_0 := hcc382 0 _ rfl
                  rw [Nat.add_zero, show ((Kd.slice 24 (Kd.int .u16))).sz = 1 from rfl, Nat.mul_one] at hv382_0
                  replace hv382_0 := Option.some.inj (hv382_0.symm.trans hx382_0)
                  rw [hv382_0] at ge382_0
                  have HL382_0 := Aside0.mk (show Kd.R (Kd.int .u16) 24 _ _ _ _ (rd_L6 x5_2 x6_1) from ge382_0)
                  clear hv382_0 ge382_0
                  have HX382_0 := Aside0.mk hx382_0
                  clear hcc382 hce382
                  (first | simp only [add_plain] at hx382_0 | simp only [add_at] at hx382_0 | simp only [Addr.add, Nat.zero_add] at hx382_0 | skip)
                  have HR382_0 := Aside0.mk hi382_0
                  have HC382_0 := Aside0.mk hl382_0
                  clear hi382_0 hl382_0
                  replace p382 := eq_true p382
                  replace q382 := eq_true q382
                  have p25 : 0 ≤ (x7_2 : Int) := of_decide_eq_true (by first | (with_reducible assumption) | assumption)
                  have q25 : (x7_2 : Int) < (((rd_L6 x5_2 x6_1).length : Int) : Int) := of_decide_eq_true (by first | (with_reducible assumption) | assumption)
                  obtain ⟨go25, co25, eo25, gb25, gl25, cl25, HG25⟩ := Kd.R_form HL382_0.out (by omega)
                  (first | cases eo25 | (injection eo25 with ea_ en_ ec_; (first | subst ea_ | (injection ea_ with ea_; subst ea_)); subst ec_; clear en_))
                  have GB25 := Aside0.mk gb25
                  have GG25 := Aside0.mk HG25
                  clear gb25 gl25 HG25
                  obtain ⟨hx25_0, hf25_0⟩ := Kd.R_celln 0 HL382_0.out (x7_2 : Int) p25 q25
                  replace p25 := eq_true p25
                  replace q25 := eq_true q25
                  have hq26 : (x6_1 : Int) < (x5_2.length : Int) := (by have h_ : (x6_1 : Int) < ((x5_2.length : Int) : Int) := of_decide_eq_true (by first | (with_reducible assumption) | assumption); first | exact h_ | (have e_ := (Kd.S_reads' HO_5.out).1; omega) | simpa only [List.length_set, List.length_set] using h_)
                  obtain ⟨oki26, ce26, hcl26, hM26, hcc26, hok26, hbk26⟩ := Kd.S_borrow HO_5.out [] (x6_1 : Int) (of_decide_eq_true (by first | (with_reducible assumption) | assumption)) hq26
                  obtain ⟨ve26_0, rfl, ge26_0⟩ := hM26
                  have hv26 := hcc26 0 _ rfl
                  rw [Nat.add_zero, show ((Kd.slice 24 (Kd.int .u16))).sz = 1 from rfl, Nat.mul_one] at hv26
                  replace hv26 := Option.some.inj (hv26.symm.trans HX382_0.out)
                  subst hv26
                  clear hcc26 hcl26
                  replace ge26_0 := (show Kd.R (Kd.int .u16) 24 _ _ _ _ (rd_L6 x5_2 x6_1) from ge26_0)
                  have HP26 := Kd.R_putg ge26_0 (x7_2 : Int) (IntKind.u16.wrap (wrap64 ((l1.length : Int) - x7_2)))
                  go_wp2_with (first | ((with_reducible refine gate_store (t := 24) (p := 70) rfl ?_); refine store_event (t := 24) (p := 70) (v := ?vo_w27) (w1 := (wr.setCell ⟨go25, (x7_2 : Int).toNat, none⟩ (.int .u16 (IntKind.u16.wrap (wrap64 ((l1.length : Int) - x7_2)))))) ?hg ?ho ?hn ?hr ?_; (case ho => rfl); (case hg => rfl); (case hn => rfl); (case hr => first | (go_simp; done) | (go_simp; rfl)); intro w27 hw; have hg : wr.grownBy w27 (some go25) := (by rw [hw]; exact HP26.2); have hz_ : Kd.R (Kd.int .u16) 24 w27 w.heap.size oki26 (.slice (some ⟨go25, 0, none⟩) (rd_L6 x5_2 x6_1).length c382_0) y383 := (by rw [hw, Ny383.out]; exact HP26.1); have hp_ : Kd.S (Kd.slice 24 (Kd.int .u16)) 77 w27 w.heap.size (fun _ => True) (.slice (some ⟨go14, 0, none⟩) x5_2.length co14) y385 := (by rw [Ny385.out]; exact hbk26 hg (fun k_ e_ => by injection e_ with e_; subst e_; exact ge26_0.1 _ rfl) (Kd.M_row hz_)); have hm_ := Kd.R_mono hz_ hok26; clear HP26 hbk26; have n0_ := Aside0.mk (hp_); have n1_ := Aside0.mk ((by rw [hw]; exact below_set (HB.out) GB25.out : Below w.heap.size w w27)); have n2_ := Aside0.mk (hm_); have n3_ := Aside0.mk ((Kd.R_reads' hm_).2.1); clear HO_5; clear HB; clear HL382_0; have HO_5 := n0_; have HB := n1_; have HL406 := n2_; have HC384 := n3_; clear n0_ n1_ n2_ n3_; clear hg hw hp_ hz_ hm_ hok26))
                  (try simp only [← hl5_2])
                  go_roundg k2
                  case measure => have := HK1.out; have := HK2.out; omega
                  case rel => exact ⟨(y385), (wrap64 (x7_2 - 1)), (by first | rfl | (simp; done) | (simp [*]; done)), H', ⟨by have := HK1.out; have := HK2.out; omega⟩, ⟨by (try simp only [hl5_2]); (with_reducible repeat (first | apply Kd.S_alloc | apply Kd.S_drewN | apply Kd.S_drew)); exact HO_5.out⟩, ⟨by repeat (first | (with_reducible first | exact HB.out | apply below_alloc | apply pw_below_drewN | apply below_drew1) | exact HB.out)⟩⟩
                 ·rw [if_neg c24] at H
                  exact absurd H (by simp)
                ·rw [if_neg c23] at H
                 exact absurd H (by simp)
               ·rw [if_neg c22] at H
                exact absurd H (by simp)
              ·rw [if_neg c21] at H
               exact absurd H (by simp)
             ·rw [if_neg c20] at H
              have c20b0 : (x6_1 == (l0.length : Int)) = false := beq_eq_false_iff_ne.mpr c20
              have c20b1 : (x6_1 != (l0.length : Int)) = true := bne_iff_ne.mpr c20
              by_cases c28 : x7_2 = (l1.length : Int)
              ·rw [if_pos c28] at H
               have c28b0 : (x7_2 == (l1.length : Int)) = true := beq_iff_eq.mpr c28
               have c28b1 : (x7_2 != (l1.length : Int)) = false := bne_eq_false_iff_eq.mpr c28
               clear c28
               by_cases c29 : 0 ≤ x6_1
               ·rw [if_pos c29] at H
                have c29b0 : decide (0 ≤ x6_1) = true := decide_eq_true c29
                clear c29
                by_cases c30 : x6_1 < (x5_2.length : Int)
                ·rw [if_pos c30] at H
                 have c30b0 : decide (x6_1 < (x5_2.length : Int)) = true := decide_eq_true c30
                 clear c30
                 by_cases c31 : 0 ≤ x7_2
                 ·rw [if_pos c31] at H
                  have c31b0 : decide (0 ≤ x7_2) = true := decide_eq_true c31
                  clear c31
                  by_cases c32 : x7_2 < ((rd_L6 x5_2 x6_1).length : Int)
                  ·rw [if_pos c32] at H
                   have c32b0 : decide (x7_2 < ((rd_L6 x5_2 x6_1).length : Int)) = true := decide_eq_true c32
                   clear c32
                   obtain ⟨y387, hy387⟩ : ∃ y_ : List Int, y_ = ((rd_L6 x5_2 x6_1).set (x7_2 : Int).toNat (IntKind.u16.wrap (wrap64 ((l0.length : Int) - x6_1)))) := ⟨_, rfl⟩
                   replace H : (frame_distances.l1 k2 l0 l1 (x5_2.set (x6_1 : Int).toNat y387) x6_1 (wrap64 (x7_2 - 1))) = some r := by first | (rw [hy387]; with_reducible exact H) | (have H2_ := (Option.bind_some _ _).symm.trans H; rw [hy387]; with_reducible exact H2_) | (have H2_ := (Option.bind_some _ _).symm.trans H; with_reducible exact H2_) | with_reducible exact H | (rw [hy387]; exact H) | exact H
                   have Ny387 := Aside0.mk hy387
                   clear hy387
                   obtain ⟨y389, hy389⟩ : ∃ y_ : List (List Int), y_ = (x5_2.set (x6_1 : Int).toNat y387) := ⟨_, rfl⟩
                   replace H : (frame_distances.l1 k2 l0 l1 y389 x6_1 (wrap64 (x7_2 - 1))) = some r := by first | (rw [hy389]; with_reducible exact H) | (have H2_ := (Option.bind_some _ _).symm.trans H; rw [hy389]; with_reducible exact H2_) | (have H2_ := (Option.bind_some _ _).symm.trans H; with_reducible exact H2_) | with_reducible exact H | (rw [hy389]; exact H) | exact H
                   have Ny389 := Aside0.mk hy389
                   clear hy389
                   have H' := Aside0.mk H
                   clear H
                   have p386 : 0 ≤ (x6_1 : Int) := of_decide_eq_true (by first | (with_reducible assumption) | assumption)
                   have q386 : x6_1 < (x5_2.length : Int) := of_decide_eq_true (by first | (with_reducible assumption) | assumption)
                   obtain ⟨ad386, A386_0, c386_0, e386, hx386_0, hl386_0, hi386_0⟩ := at_L6 (Kd.S_reads' HO_5.out).2.2 x6_1 p386 q386
                   obtain rfl : (⟨go14, 0, none⟩ : Addr) = ad386 := (by injection e386)
                   obtain ⟨ce386, hce386, hMe386, hcc386⟩ := Kd.S_get HO_5.out [] x6_1 p386 (by first | exact q386 | exact of_decide_eq_true (by first | (with_reducible assumption) | assumption) | (have e_ := (Kd.S_reads' HO_5.out).1; omega))
                   obtain ⟨ve386_0, rfl, ge386_0⟩ := hMe386
                   have hv386_0 := hcc386 0 _ rfl
                   rw [Nat.add_zero, show ((Kd.slice 24 (Kd.int .u16))).sz = 1 from rfl, Nat.mul_one] at hv386_0
                   replace hv386_0 := Option.some.inj (hv386_0.symm.trans hx386_0)
                   rw [hv386_0] at ge386_0
                   have HL386_0 := Aside0.mk (show Kd.R (Kd.int .u16) 24 _ _ _ _ (rd_L6 x5_2 x6_1) from ge386_0)
                   clear hv386_0 ge386_0
                   have HX386_0 := Aside0.mk hx386_0
                   clear hcc386 hce386
                   (first | simp only [add_plain] at hx386_0 | simp only [add_at] at hx386_0 | simp only [Addr.add, Nat.zero_add] at hx386_0 | skip)
                   have HR386_0 := Aside0.mk hi386_0
                   have HC386_0 := Aside0.mk hl386_0
                   clear hi386_0 hl386_0
                   replace p386 := eq_true p386
                   replace q386 := eq_true q386
                   have p33 : 0 ≤ (x7_2 : Int) := of_decide_eq_true (by first | (with_reducible assumption) | assumption)
                   have q33 : (x7_2 : Int) < (((rd_L6 x5_2 x6_1).length : Int) : Int) := of_decide_eq_true (by first | (with_reducible assumption) | assumption)
                   obtain ⟨go33, co33, eo33, gb33, gl33, cl33, HG33⟩ := Kd.R_form HL386_0.out (by omega)
                   (first | cases eo33 | (injection eo33 with ea_ en_ ec_; (first | subst ea_ | (injection ea_ with ea_; subst ea_)); subst ec_; clear en_))
                   have GB33 := Aside0.mk gb33
                   have GG33 := Aside0.mk HG33
                   clear gb33 gl33 HG33
                   obtain ⟨hx33_0, hf33_0⟩ := Kd.R_celln 0 HL386_0.out (x7_2 : Int) p33 q33
                   replace p33 := eq_true p33
                   replace q33 := eq_true q33
                   have hq34 : (x6_1 : Int) < (x5_2.length : Int) := (by have h_ : (x6_1 : Int) < ((x5_2.length : Int) : Int) := of_decide_eq_true (by first | (with_reducible assumption) | assumption); first | exact h_ | (have e_ := (Kd.S_reads' HO_5.out).1; omega) | simpa only [List.length_set, List.length_set] using h_)
                   obtain ⟨oki34, ce34, hcl34, hM34, hcc34, hok34, hbk34⟩ := Kd.S_borrow HO_5.out [] (x6_1 : Int) (of_decide_eq_true (by first | (with_reducible assumption) | assumption)) hq34
                   obtain ⟨ve34_0, rfl, ge34_0⟩ := hM34
                   have hv34 := hcc34 0 _ rfl
                   rw [Nat.add_zero, show ((Kd.slice 24 (Kd.int .u16))).sz = 1 from rfl, Nat.mul_one] at hv34
                   replace hv34 := Option.some.inj (hv34.symm.trans HX386_0.out)
                   subst hv34
                   clear hcc34 hcl34
                   replace ge34_0 := (show Kd.R (Kd.int .u16) 24 _ _ _ _ (rd_L6 x5_2 x6_1) from ge34_0)
                   have HP34 := Kd.R_putg ge34_0 (x7_2 : Int) (IntKind.u16.wrap (wrap64 ((l0.length : Int) - x6_1)))
                   go_wp2_with (first | ((with_reducible refine gate_store (t := 24) (p := 86) rfl ?_); refine store_event (t := 24) (p := 86) (v := ?vo_w35) (w1 := (wr.setCell ⟨go33, (x7_2 : Int).toNat, none⟩ (.int .u16 (IntKind.u16.wrap (wrap64 ((l0.length : Int) - x6_1)))))) ?hg ?ho ?hn ?hr ?_; (case ho => rfl); (case hg => rfl); (case hn => rfl); (case hr => first | (go_simp; done) | (go_simp; rfl)); intro w35 hw; have hg : wr.grownBy w35 (some go33) := (by rw [hw]; exact HP34.2); have hz_ : Kd.R (Kd.int .u16) 24 w35 w.heap.size oki34 (.slice (some ⟨go33, 0, none⟩) (rd_L6 x5_2 x6_1).length c386_0) y387 := (by rw [hw, Ny387.out]; exact HP34.1); have hp_ : Kd.S (Kd.slice 24 (Kd.int .u16)) 77 w35 w.heap.size (fun _ => True) (.slice (some ⟨go14, 0, none⟩) x5_2.length co14) y389 := (by rw [Ny389.out]; exact hbk34 hg (fun k_ e_ => by injection e_ with e_; subst e_; exact ge34_0.1 _ rfl) (Kd.M_row hz_)); have hm_ := Kd.R_mono hz_ hok34; clear HP34 hbk34; have n0_ := Aside0.mk (hp_); have n1_ := Aside0.mk ((by rw [hw]; exact below_set (HB.out) GB33.out : Below w.heap.size w w35)); have n2_ := Aside0.mk (hm_); have n3_ := Aside0.mk ((Kd.R_reads' hm_).2.1); clear HO_5; clear HB; clear HL386_0; have HO_5 := n0_; have HB := n1_; have HL407 := n2_; have HC388 := n3_; clear n0_ n1_ n2_ n3_; clear hg hw hp_ hz_ hm_ hok34))
                   (try simp only [← hl5_2])
                   go_roundg k2
                   case measure => have := HK1.out; have := HK2.out; omega
                   case rel => exact ⟨(y389), (wrap64 (x7_2 - 1)), (by first | rfl | (simp; done) | (simp [*]; done)), H', ⟨by have := HK1.out; have := HK2.out; omega⟩, ⟨by (try simp only [hl5_2]); (with_reducible repeat (first | apply Kd.S_alloc | apply Kd.S_drewN | apply Kd.S_drew)); exact HO_5.out⟩, ⟨by repeat (first | (with_reducible first | exact HB.out | apply below_alloc | apply pw_below_drewN | apply below_drew1) | exact HB.out)⟩⟩
                  ·rw [if_neg c32] at H
                   exact absurd H (by simp)
                 ·rw [if_neg c31] at H
                  exact absurd H (by simp)
                ·rw [if_neg c30] at H
                 exact absurd H (by simp)
               ·rw [if_neg c29] at H
                exact absurd H (by simp)
              ·rw [if_neg c28] at H
               have c28b0 : (x7_2 == (l1.length : Int)) = false := beq_eq_false_iff_ne.mpr c28
               have c28b1 : (x7_2 != (l1.length : Int)) = true := bne_iff_ne.mpr c28
               by_cases c36 : 0 ≤ x6_1
               ·rw [if_pos c36] at H
                have c36b0 : decide (0 ≤ x6_1) = true := decide_eq_true c36
                clear c36
                by_cases c37 : x6_1 < (l0.length : Int)
                ·rw [if_pos c37] at H
                 have c37b0 : decide (x6_1 < (l0.length : Int)) = true := decide_eq_true c37
                 clear c37
                 by_cases c38 : 0 ≤ x7_2
                 ·rw [if_pos c38] at H
                  have c38b0 : decide (0 ≤ x7_2) = true := decide_eq_true c38
                  clear c38
                  by_cases c39 : x7_2 < (l1.length : Int)
                  ·rw [if_pos c39] at H
                   have c39b0 : decide (x7_2 < (l1.length : Int)) = true := decide_eq_true c39
                   clear c39
                   by_cases c40 : (rdOf ByteArray.empty l0 x6_1).toList = (rdOf ByteArray.empty l1 x7_2).toList
                   ·rw [if_pos c40] at H
                    have c40b0 : ((rdOf ByteArray.empty l0 x6_1).toList == (rdOf ByteArray.empty l1 x7_2).toList) = true := beq_iff_eq.mpr c40
                    have c40b1 : ((rdOf ByteArray.empty l0 x6_1).toList != (rdOf ByteArray.empty l1 x7_2).toList) = false := bne_eq_false_iff_eq.mpr c40
                    clear c40
                    by_cases c41 : x6_1 < (x5_2.length : Int)
                    ·rw [if_pos c41] at H
                     have c41b0 : decide (x6_1 < (x5_2.length : Int)) = true := decide_eq_true c41
                     clear c41
                     obtain ⟨ji42, hji42⟩ : ∃ j_ : Int, (wrap64 (x6_1 + 1)) = j_ := ⟨_, rfl⟩
                     replace H : (if 0 ≤ (ji42) then (if (ji42) < (x5_2.length : Int) then (if 0 ≤ (wrap64 (x7_2 + 1)) then (if (wrap64 (x7_2 + 1)) < ((rd_L6 x5_2 (ji42)).length : Int) then (if x7_2 < ((rd_L6 x5_2 x6_1).length : Int) then (frame_distances.l1 k2 l0 l1 (x5_2.set (x6_1 : Int).toNat ((rd_L6 x5_2 x6_1).set (x7_2 : Int).toNat (rd (rd_L6 x5_2 (ji42)) (wrap64 (x7_2 + 1))))) x6_1 (wrap64 (x7_2 - 1))) else (none)) else (none)) else (none)) else (none)) else (none)) = some r := by first | (rw [hji42] at H; exact H) | (simp only [hji42] at H ⊢; exact H)
                     have hji42w : (IntKind.i64.wrap (x6_1 + 1)) = ji42 := (i64_w _).trans hji42
                     by_cases c43 : 0 ≤ (ji42)
                     ·rw [if_pos c43] at H
                      have c43b0 : decide (0 ≤ (ji42)) = true := decide_eq_true c43
                      clear c43
                      by_cases c44 : (ji42) < (x5_2.length : Int)
                      ·rw [if_pos c44] at H
                       have c44b0 : decide ((ji42) < (x5_2.length : Int)) = true := decide_eq_true c44
                       clear c44
                       obtain ⟨ji45, hji45⟩ : ∃ j_ : Int, (wrap64 (x7_2 + 1)) = j_ := ⟨_, rfl⟩
                       replace H : (if 0 ≤ (ji45) then (if (ji45) < ((rd_L6 x5_2 (ji42)).length : Int) then (if x7_2 < ((rd_L6 x5_2 x6_1).length : Int) then (frame_distances.l1 k2 l0 l1 (x5_2.set (x6_1 : Int).toNat ((rd_L6 x5_2 x6_1).set (x7_2 : Int).toNat (rd (rd_L6 x5_2 (ji42)) (ji45)))) x6_1 (wrap64 (x7_2 - 1))) else (none)) else (none)) else (none)) = some r := by first | (rw [hji45] at H; exact H) | (simp only [hji45] at H ⊢; exact H)
                       have hji45w : (IntKind.i64.wrap (x7_2 + 1)) = ji45 := (i64_w _).trans hji45
                       by_cases c46 : 0 ≤ (ji45)
                       ·rw [if_pos c46] at H
                        have c46b0 : decide (0 ≤ (ji45)) = true := decide_eq_true c46
                        clear c46
                        by_cases c47 : (ji45) < ((rd_L6 x5_2 (ji42)).length : Int)
                        ·rw [if_pos c47] at H
                         have c47b0 : decide ((ji45) < ((rd_L6 x5_2 (ji42)).length : Int)) = true := decide_eq_true c47
                         clear c47
                         by_cases c48 : x7_2 < ((rd_L6 x5_2 x6_1).length : Int)
                         ·rw [if_pos c48] at H
                          have c48b0 : decide (x7_2 < ((rd_L6 x5_2 x6_1).length : Int)) = true := decide_eq_true c48
                          clear c48
                          obtain ⟨y395, hy395⟩ : ∃ y_ : List Int, y_ = ((rd_L6 x5_2 x6_1).set (x7_2 : Int).toNat (rd (rd_L6 x5_2 (ji42)) (ji45))) := ⟨_, rfl⟩
                          replace H : (frame_distances.l1 k2 l0 l1 (x5_2.set (x6_1 : Int).toNat y395) x6_1 (wrap64 (x7_2 - 1))) = some r := by first | (rw [hy395]; with_reducible exact H) | (have H2_ := (Option.bind_some _ _).symm.trans H; rw [hy395]; with_reducible exact H2_) | (have H2_ := (Option.bind_some _ _).symm.trans H; with_reducible exact H2_) | with_reducible exact H | (rw [hy395]; exact H) | exact H
                          have Ny395 := Aside0.mk hy395
                          clear hy395
                          obtain ⟨y397, hy397⟩ : ∃ y_ : List (List Int), y_ = (x5_2.set (x6_1 : Int).toNat y395) := ⟨_, rfl⟩
                          replace H : (frame_distances.l1 k2 l0 l1 y397 x6_1 (wrap64 (x7_2 - 1))) = some r := by first | (rw [hy397]; with_reducible exact H) | (have H2_ := (Option.bind_some _ _).symm.trans H; rw [hy397]; with_reducible exact H2_) | (have H2_ := (Option.bind_some _ _).symm.trans H; with_reducible exact H2_) | with_reducible exact H | (rw [hy397]; exact H) | exact H
                          have Ny397 := Aside0.mk hy397
                          clear hy397
                          have H' := Aside0.mk H
                          clear H
                          try go_wp2
                          have n0_ := Aside0.mk (Kd.S_drew HO_5.out)
                          have n1_ := Aside0.mk (below_drew1 HB.out)
                          clear HO_5
                          clear HB
                          have HO_5 := n0_
                          have HB := n1_
                          clear n0_ n1_
                          have p390 : 0 ≤ (x6_1 : Int) := of_decide_eq_true (by first | (with_reducible assumption) | assumption)
                          have q390 : x6_1 < (l0.length : Int) := of_decide_eq_true (by first | (with_reducible assumption) | assumption)
                          obtain ⟨ad390, e390, hx390_0⟩ := Kd.at_string HR0.out x6_1 p390 q390
                          have hw390_0 := hx390_0
                          cases e390
                          replace hx390_0 := (HB.out.cell (World.block_lt_of_cell? w _ hx390_0)).trans hx390_0
                          replace p390 := eq_true p390
                          replace q390 := eq_true q390
                          have p391 : 0 ≤ (x7_2 : Int) := of_decide_eq_true (by first | (with_reducible assumption) | assumption)
                          have q391 : x7_2 < (l1.length : Int) := of_decide_eq_true (by first | (with_reducible assumption) | assumption)
                          obtain ⟨ad391, e391, hx391_0⟩ := Kd.at_string HR1.out x7_2 p391 q391
                          have hw391_0 := hx391_0
                          cases e391
                          replace hx391_0 := (HB.out.cell (World.block_lt_of_cell? w _ hx391_0)).trans hx391_0
                          replace p391 := eq_true p391
                          replace q391 := eq_true q391
                          refine start_ (n := 10) (S := fun w' => w'.cell? (ad390.add (x6_1).toNat) = some (.string (rdOf ByteArray.empty l0 x6_1)) ∧ w'.cell? (ad391.add (x7_2).toNat) = some (.string (rdOf ByteArray.empty l1 x7_2))) (ds := []) #[false, false, false, false, false, false, false, false, false, false] (by kernel_rfl) rfl rfl ⟨((HB.out.cell (World.block_lt_of_cell? w _ hw390_0)).trans hw390_0), ((HB.out.cell (World.block_lt_of_cell? w _ hw391_0)).trans hw391_0)⟩ (fun hHeld => ?_); refine with_tabW frame_distances.tab14 frame_distances.bits14 (fun HT_ HW_ => ?_)
                          generalize wr.drew = w50 at HO_5 HB hx390_0 hx391_0 hHeld ⊢
                          refine pure_ (i := 0) (N := some 88) (v := ?_) (a' := ?_) #[true, false, false, false, false, false, false, false, false, false] rfl rfl (any_of HT_.out (by kernel_rfl)) (fun _ _ _ h => h) (Or.inl ⟨by rfl, ?_⟩) ?_ ?_
                          rotate_left
                          ·intro w'
                           go_simp
                           with_reducible rfl
                          rotate_left
                          ·simp only [Act.put, sA_, sB_, sC_, i64_w, i32_w]
                           rfl
                          refine pure_ (i := 1) (N := some 89) (v := ?_) (a' := ?_) #[true, true, false, false, false, false, false, false, false, false] rfl rfl (any_of HT_.out (by kernel_rfl)) (fun _ _ _ h => h) (Or.inl ⟨by rfl, ?_⟩) ?_ ?_
                          rotate_left
                          ·intro w'
                           go_simp
                           with_reducible rfl
                          rotate_left
                          ·simp only [Act.put, sA_, sB_, sC_, i64_w, i32_w]
                           rfl
                          refine pure_ (i := 2) (N := some 90) (v := ?_) (a' := ?_) #[true, true, true, false, false, false, false, false, false, false] rfl rfl (any_of HT_.out (by kernel_rfl)) (fun _ _ _ h => h) (Or.inl ⟨by rfl, ?_⟩) ?_ ?_
                          rotate_left
                          ·intro w'
                           go_simp
                           with_reducible rfl
                          rotate_left
                          ·simp only [Act.put, sA_, sB_, sC_, i64_w, i32_w]
                           rfl
                          refine pure_ (i := 4) (N := some 92) (v := ?_) (a' := ?_) #[true, true, true, false, true, false, false, false, false, false] rfl rfl (any_of HT_.out (by kernel_rfl)) (fun _ _ _ h => h) (Or.inl ⟨by rfl, ?_⟩) ?_ ?_
                          rotate_left
                          ·intro w'
                           go_simp
                           with_reducible rfl
                          rotate_left
                          ·simp only [Act.put, sA_, sB_, sC_, i64_w, i32_w]
                           rfl
                          refine pure_ (i := 5) (N := some 93) (v := ?_) (a' := ?_) #[true, true, true, false, true, true, false, false, false, false] rfl rfl (any_of HT_.out (by kernel_rfl)) (fun _ _ _ h => h) (Or.inl ⟨by rfl, ?_⟩) ?_ ?_
                          rotate_left
                          ·intro w'
                           go_simp
                           with_reducible rfl
                          rotate_left
                          ·simp only [Act.put, sA_, sB_, sC_, i64_w, i32_w]
                           rfl
                          refine pure_ (i := 6) (N := some 94) (v := ?_) (a' := ?_) #[true, true, true, false, true, true, true, false, false, false] rfl rfl (any_of HT_.out (by kernel_rfl)) (fun _ _ _ h => h) (Or.inl ⟨by rfl, ?_⟩) ?_ ?_
                          rotate_left
                          ·intro w'
                           go_simp
                           with_reducible rfl
                          rotate_left
                          ·simp only [Act.put, sA_, sB_, sC_, i64_w, i32_w]
                           rfl
                          refine take_ (i := 3) (N := some 91) (v := ?_) (a' := ?_) #[true, true, true, true, true, true, true, false, false, false] rfl rfl (take_ofW HT_.out HW_.out (by kernel_rfl)) (fun _ _ _ h => h) (Or.inl ⟨by rfl, ?_⟩) hHeld ?_ ?_
                          rotate_left
                          ·rintro w' ⟨s0, s1⟩
                           go_simp
                           with_reducible rfl
                          rotate_left
                          ·simp only [Act.put, sA_, sB_, sC_, i64_w, i32_w]
                           rfl
                          refine take_ (i := 7) (N := some 95) (v := ?_) (a' := ?_) #[true, true, true, true, true, true, true, true, false, false] rfl rfl (take_ofW HT_.out HW_.out (by kernel_rfl)) (fun _ _ _ h => h) (Or.inl ⟨by rfl, ?_⟩) hHeld ?_ ?_
                          rotate_left
                          ·rintro w' ⟨s0, s1⟩
                           go_simp
                           with_reducible rfl
                          rotate_left
                          ·simp only [Act.put, sA_, sB_, sC_, i64_w, i32_w]
                           rfl
                          refine pure_ (i := 8) (N := some 96) (v := ?_) (a' := ?_) #[true, true, true, true, true, true, true, true, true, false] rfl rfl (any_of HT_.out (by kernel_rfl)) (fun _ _ _ h => h) (Or.inl ⟨by rfl, ?_⟩) ?_ ?_
                          rotate_left
                          ·intro w'
                           go_simp
                           with_reducible rfl
                          rotate_left
                          ·simp only [Act.put, sA_, sB_, sC_, i64_w, i32_w]
                           rfl
                          refine pure_ (i := 9) (N := some 87) (v := ?_) (a' := ?_) #[true, true, true, true, true, true, true, true, true, true] rfl rfl (any_of HT_.out (by kernel_rfl)) (fun _ _ _ h => h) (Or.inl ⟨by rfl, ?_⟩) ?_ ?_
                          rotate_left
                          ·intro w'
                           go_simp
                           with_reducible rfl
                          rotate_left
                          ·simp only [Act.put, sA_, sB_, sC_, i64_w, i32_w]
                           rfl
                          refine done_ (done_of HT_.out (by kernel_rfl)) ?_
                          try go_wp2
                          have n0_ := Aside0.mk (Kd.S_drew HO_5.out)
                          have n1_ := Aside0.mk (below_drew1 HB.out)
                          clear HO_5
                          clear HB
                          have HO_5 := n0_
                          have HB := n1_
                          clear n0_ n1_
                          have p392 : 0 ≤ (x6_1 : Int) := of_decide_eq_true (by first | (with_reducible assumption) | assumption)
                          have q392 : x6_1 < (x5_2.length : Int) := of_decide_eq_true (by first | (with_reducible assumption) | assumption)
                          obtain ⟨ad392, A392_0, c392_0, e392, hx392_0, hl392_0, hi392_0⟩ := at_L6 (Kd.S_reads' HO_5.out).2.2 x6_1 p392 q392
                          obtain rfl : (⟨go14, 0, none⟩ : Addr) = ad392 := (by injection e392)
                          obtain ⟨ce392, hce392, hMe392, hcc392⟩ := Kd.S_get HO_5.out [] x6_1 p392 (by first | exact q392 | exact of_decide_eq_true (by first | (with_reducible assumption) | assumption) | (have e_ := (Kd.S_reads' HO_5.out).1; omega))
                          obtain ⟨ve392_0, rfl, ge392_0⟩ := hMe392
                          have hv392_0 := hcc392 0 _ rfl
                          rw [Nat.add_zero, show ((Kd.slice 24 (Kd.int .u16))).sz = 1 from rfl, Nat.mul_one] at hv392_0
                          replace hv392_0 := Option.some.inj (hv392_0.symm.trans hx392_0)
                          rw [hv392_0] at ge392_0
                          have HL392_0 := Aside0.mk (show Kd.R (Kd.int .u16) 24 _ _ _ _ (rd_L6 x5_2 x6_1) from ge392_0)
                          clear hv392_0 ge392_0
                          have HX392_0 := Aside0.mk hx392_0
                          clear hcc392 hce392
                          (first | simp only [add_plain] at hx392_0 | simp only [add_at] at hx392_0 | simp only [Addr.add, Nat.zero_add] at hx392_0 | skip)
                          have HR392_0 := Aside0.mk hi392_0
                          have HC392_0 := Aside0.mk hl392_0
                          clear hi392_0 hl392_0
                          replace p392 := eq_true p392
                          replace q392 := eq_true q392
                          have p393 : 0 ≤ ((ji42) : Int) := of_decide_eq_true (by first | (with_reducible assumption) | assumption)
                          have q393 : (ji42) < (x5_2.length : Int) := of_decide_eq_true (by first | (with_reducible assumption) | assumption)
                          obtain ⟨ad393, A393_0, c393_0, e393, hx393_0, hl393_0, hi393_0⟩ := at_L6 (Kd.S_reads' HO_5.out).2.2 (ji42) p393 q393
                          obtain rfl : (⟨go14, 0, none⟩ : Addr) = ad393 := (by injection e393)
                          obtain ⟨ce393, hce393, hMe393, hcc393⟩ := Kd.S_get HO_5.out [] (ji42) p393 (by first | exact q393 | exact of_decide_eq_true (by first | (with_reducible assumption) | assumption) | (have e_ := (Kd.S_reads' HO_5.out).1; omega))
                          obtain ⟨ve393_0, rfl, ge393_0⟩ := hMe393
                          have hv393_0 := hcc393 0 _ rfl
                          rw [Nat.add_zero, show ((Kd.slice 24 (Kd.int .u16))).sz = 1 from rfl, Nat.mul_one] at hv393_0
                          replace hv393_0 := Option.some.inj (hv393_0.symm.trans hx393_0)
                          rw [hv393_0] at ge393_0
                          have HL393_0 := Aside0.mk (show Kd.R (Kd.int .u16) 24 _ _ _ _ (rd_L6 x5_2 (ji42)) from ge393_0)
                          clear hv393_0 ge393_0
                          have HX393_0 := Aside0.mk hx393_0
                          clear hcc393 hce393
                          (first | simp only [add_plain] at hx393_0 | simp only [add_at] at hx393_0 | simp only [Addr.add, Nat.zero_add] at hx393_0 | skip)
                          have HR393_0 := Aside0.mk hi393_0
                          have HC393_0 := Aside0.mk hl393_0
                          clear hi393_0 hl393_0
                          replace p393 := eq_true p393
                          replace q393 := eq_true q393
                          have p394 : 0 ≤ ((ji45) : Int) := of_decide_eq_true (by first | (with_reducible assumption) | assumption)
                          have q394 : (ji45) < ((rd_L6 x5_2 (ji42)).length : Int) := of_decide_eq_true (by first | (with_reducible assumption) | assumption)
                          obtain ⟨ad394, e394, hx394_0⟩ := Kd.at_int (by repeat (first | (with_reducible exact HR393_0.out) | (with_reducible refine Kd.C_alloc ?_ _) | (with_reducible refine Kd.C_drewN ?_ _) | (with_reducible refine Kd.C_drew ?_) | exact HR393_0.out)) (ji45) p394 q394
                          cases e394
                          replace p394 := eq_true p394
                          replace q394 := eq_true q394
                          have p49 : 0 ≤ (x7_2 : Int) := of_decide_eq_true (by first | (with_reducible assumption) | assumption)
                          have q49 : (x7_2 : Int) < (((rd_L6 x5_2 x6_1).length : Int) : Int) := of_decide_eq_true (by first | (with_reducible assumption) | assumption)
                          obtain ⟨go49, co49, eo49, gb49, gl49, cl49, HG49⟩ := Kd.R_form HL392_0.out (by omega)
                          (first | cases eo49 | (injection eo49 with ea_ en_ ec_; (first | subst ea_ | (injection ea_ with ea_; subst ea_)); subst ec_; clear en_))
                          have GB49 := Aside0.mk gb49
                          have GG49 := Aside0.mk HG49
                          clear gb49 gl49 HG49
                          obtain ⟨hx49_0, hf49_0⟩ := Kd.R_celln 0 HL392_0.out (x7_2 : Int) p49 q49
                          replace p49 := eq_true p49
                          replace q49 := eq_true q49
                          have hq52 : (x6_1 : Int) < (x5_2.length : Int) := (by have h_ : (x6_1 : Int) < ((x5_2.length : Int) : Int) := of_decide_eq_true (by first | (with_reducible assumption) | assumption); first | exact h_ | (have e_ := (Kd.S_reads' HO_5.out).1; omega) | simpa only [List.length_set, List.length_set] using h_)
                          obtain ⟨oki52, ce52, hcl52, hM52, hcc52, hok52, hbk52⟩ := Kd.S_borrow HO_5.out [] (x6_1 : Int) (of_decide_eq_true (by first | (with_reducible assumption) | assumption)) hq52
                          obtain ⟨ve52_0, rfl, ge52_0⟩ := hM52
                          have hv52 := hcc52 0 _ rfl
                          rw [Nat.add_zero, show ((Kd.slice 24 (Kd.int .u16))).sz = 1 from rfl, Nat.mul_one] at hv52
                          replace hv52 := Option.some.inj (hv52.symm.trans HX392_0.out)
                          subst hv52
                          clear hcc52 hcl52
                          replace ge52_0 := (show Kd.R (Kd.int .u16) 24 _ _ _ _ (rd_L6 x5_2 x6_1) from ge52_0)
                          have HP52 := Kd.R_putg ge52_0 (x7_2 : Int) (rd (rd_L6 x5_2 (ji42)) (ji45))
                          rw [← Ny395.out] at HP52
                          have HS52 := hbk52 HP52.2 (fun k_ e_ => by injection e_ with e_; subst e_; exact ge52_0.1 _ rfl) (x' := y395) (Kd.M_row HP52.1)
                          rw [← Ny397.out] at HS52
                          have HQ52 := Aside0.mk HS52
                          clear HP52 HS52 hbk52 hok52
                          refine start_ (n := 16) (S := fun w' => w'.cell? ⟨go14, (x6_1).toNat, none⟩ = some (.slice (some ⟨go49, 0, none⟩) (rd_L6 x5_2 x6_1).length c392_0) ∧ w'.cell? ⟨go14, ((ji42)).toNat, none⟩ = some (.slice (some ad394) (rd_L6 x5_2 (ji42)).length c393_0) ∧ w'.cell? (ad394.add ((ji45)).toNat) = some (.int .u16 (rd (rd_L6 x5_2 (ji42)) (ji45)))) (ds := [15]) #[false, false, false, false, false, false, false, false, false, false, false, false, false, false, false, false] (by kernel_rfl) rfl rfl ⟨hx392_0, hx393_0, hx394_0⟩ (fun hHeld => ?_); refine with_tabW frame_distances.tab15 frame_distances.bits15 (fun HT_ HW_ => ?_)
                          generalize w50.drew = w51 at HO_5 HB GG49 HL392_0 HL393_0 HQ52 HR392_0 HR393_0 HX392_0 HX393_0 hf49_0 hx392_0 hx393_0 hx394_0 hx49_0 hHeld ⊢
                          refine pure_ (i := 0) (N := some 97) (v := ?_) (a' := ?_) #[true, false, false, false, false, false, false, false, false, false, false, false, false, false, false, false] rfl rfl (any_of HT_.out (by kernel_rfl)) (fun _ _ _ h => h) (Or.inl ⟨by rfl, ?_⟩) ?_ ?_
                          rotate_left
                          ·intro w'
                           go_simp
                           with_reducible rfl
                          rotate_left
                          ·simp only [Act.put, sA_, sB_, sC_, i64_w, i32_w]
                           rfl
                          refine pure_ (i := 1) (N := some 98) (v := ?_) (a' := ?_) #[true, true, false, false, false, false, false, false, false, false, false, false, false, false, false, false] rfl rfl (any_of HT_.out (by kernel_rfl)) (fun _ _ _ h => h) (Or.inl ⟨by rfl, ?_⟩) ?_ ?_
                          rotate_left
                          ·intro w'
                           go_simp
                           with_reducible rfl
                          rotate_left
                          ·simp only [Act.put, sA_, sB_, sC_, i64_w, i32_w]
                           rfl
                          refine pure_ (i := 2) (N := some 99) (v := ?_) (a' := ?_) #[true, true, true, false, false, false, false, false, false, false, false, false, false, false, false, false] rfl rfl (any_of HT_.out (by kernel_rfl)) (fun _ _ _ h => h) (Or.inl ⟨by rfl, ?_⟩) ?_ ?_
                          rotate_left
                          ·intro w'
                           go_simp
                           with_reducible rfl
                          rotate_left
                          ·simp only [Act.put, sA_, sB_, sC_, i64_w, i32_w]
                           rfl
                          refine pure_ (i := 4) (N := some 101) (v := ?_) (a' := ?_) #[true, true, true, false, true, false, false, false, false, false, false, false, false, false, false, false] rfl rfl (any_of HT_.out (by kernel_rfl)) (fun _ _ _ h => h) (Or.inl ⟨by rfl, ?_⟩) ?_ ?_
                          rotate_left
                          ·intro w'
                           go_simp
                           with_reducible rfl
                          rotate_left
                          ·simp only [Act.put, sA_, sB_, sC_, i64_w, i32_w]
                           rfl
                          refine pure_ (i := 5) (N := some 102) (v := ?_) (a' := ?_) #[true, true, true, false, true, true, false, false, false, false, false, false, false, false, false, false] rfl rfl (any_of HT_.out (by kernel_rfl)) (fun _ _ _ h => h) (Or.inl ⟨by rfl, ?_⟩) ?_ ?_
                          rotate_left
                          ·intro w'
                           go_simp
                           with_reducible rfl
                          rotate_left
                          ·simp only [Act.put, sA_, sB_, sC_, i64_w, i32_w]
                           rfl
                          refine pure_ (i := 6) (N := some 103) (v := ?_) (a' := ?_) #[true, true, true, false, true, true, true, false, false, false, false, false, false, false, false, false] rfl rfl (any_of HT_.out (by kernel_rfl)) (fun _ _ _ h => h) (Or.inl ⟨by rfl, ?_⟩) ?_ ?_
                          rotate_left
                          ·intro w'
                           go_simp
                           with_reducible rfl
                          rotate_left
                          ·simp only [Act.put, sA_, sB_, sC_, i64_w, i32_w]
                           rfl
                          refine pure_ (i := 7) (N := some 104) (v := ?_) (a' := ?_) #[true, true, true, false, true, true, true, true, false, false, false, false, false, false, false, false] rfl rfl (any_of HT_.out (by kernel_rfl)) (fun _ _ _ h => h) (Or.inl ⟨by rfl, ?_⟩) ?_ ?_
                          rotate_left
                          ·intro w'
                           go_simp
                           with_reducible rfl
                          rotate_left
                          ·simp only [Act.put, sA_, sB_, sC_, i64_w, i32_w]
                           rfl
                          refine pure_ (i := 8) (N := some 105) (v := ?_) (a' := ?_) #[true, true, true, false, true, true, true, true, true, false, false, false, false, false, false, false] rfl rfl (any_of HT_.out (by kernel_rfl)) (fun _ _ _ h => h) (Or.inl ⟨by rfl, ?_⟩) ?_ ?_
                          rotate_left
                          ·intro w'
                           go_simp
                           with_reducible rfl
                          rotate_left
                          ·simp only [Act.put, sA_, sB_, sC_, i64_w, i32_w]
                           rfl
                          refine pure_ (i := 10) (N := some 107) (v := ?_) (a' := ?_) #[true, true, true, false, true, true, true, true, true, false, true, false, false, false, false, false] rfl rfl (any_of HT_.out (by kernel_rfl)) (fun _ _ _ h => h) (Or.inl ⟨by rfl, ?_⟩) ?_ ?_
                          rotate_left
                          ·intro w'
                           go_simp
                           with_reducible rfl
                          rotate_left
                          ·simp only [Act.put, sA_, sB_, sC_, i64_w, i32_w]
                           rfl
                          refine pure_ (i := 11) (N := some 108) (v := ?_) (a' := ?_) #[true, true, true, false, true, true, true, true, true, false, true, true, false, false, false, false] rfl rfl (any_of HT_.out (by kernel_rfl)) (fun _ _ _ h => h) (Or.inl ⟨by rfl, ?_⟩) ?_ ?_
                          rotate_left
                          ·intro w'
                           go_simp
                           with_reducible rfl
                          rotate_left
                          ·simp only [Act.put, sA_, sB_, sC_, i64_w, i32_w]
                           rfl
                          refine take_ (i := 3) (N := some 100) (v := ?_) (a' := ?_) #[true, true, true, true, true, true, true, true, true, false, true, true, false, false, false, false] rfl rfl (take_ofW HT_.out HW_.out (by kernel_rfl)) (fun _ _ _ h => h) (Or.inl ⟨by rfl, ?_⟩) hHeld ?_ ?_
                          rotate_left
                          ·rintro w' ⟨s0, s1, s2⟩
                           go_simp
                           with_reducible rfl
                          rotate_left
                          ·simp only [Act.put, sA_, sB_, sC_, i64_w, i32_w]
                           rfl
                          refine take_ (i := 9) (N := some 106) (v := ?_) (a' := ?_) #[true, true, true, true, true, true, true, true, true, true, true, true, false, false, false, false] rfl rfl (take_ofW HT_.out HW_.out (by kernel_rfl)) (fun _ _ _ h => h) (Or.inl ⟨by rfl, ?_⟩) hHeld ?_ ?_
                          rotate_left
                          ·rintro w' ⟨s0, s1, s2⟩
                           go_simp
                           with_reducible rfl
                          rotate_left
                          ·simp only [Act.put, sA_, sB_, sC_, i64_w, i32_w]
                           rfl
                          refine pure_ (i := 12) (N := some 109) (v := ?_) (a' := ?_) #[true, true, true, true, true, true, true, true, true, true, true, true, true, false, false, false] rfl rfl (any_of HT_.out (by kernel_rfl)) (fun _ _ _ h => h) (Or.inl ⟨by rfl, ?_⟩) ?_ ?_
                          rotate_left
                          ·intro w'
                           go_simp
                           with_reducible rfl
                          rotate_left
                          ·simp only [Act.put, sA_, sB_, sC_, i64_w, i32_w]
                           rfl
                          refine take_ (i := 13) (N := some 110) (v := ?_) (a' := ?_) #[true, true, true, true, true, true, true, true, true, true, true, true, true, true, false, false] rfl rfl (take_ofW HT_.out HW_.out (by kernel_rfl)) (fun _ _ _ h => h) (Or.inl ⟨by rfl, ?_⟩) hHeld ?_ ?_
                          rotate_left
                          ·rintro w' ⟨s0, s1, s2⟩
                           go_simp
                           with_reducible rfl
                          rotate_left
                          ·simp only [Act.put, sA_, sB_, sC_, i64_w, i32_w]
                           rfl
                          refine pure_ (i := 14) (N := some 111) (v := ?_) (a' := ?_) #[true, true, true, true, true, true, true, true, true, true, true, true, true, true, true, false] rfl rfl (any_of HT_.out (by kernel_rfl)) (fun _ _ _ h => h) (Or.inl ⟨by rfl, ?_⟩) ?_ ?_
                          rotate_left
                          ·intro w'
                           go_simp
                           with_reducible rfl
                          rotate_left
                          ·simp only [Act.put, sA_, sB_, sC_, i64_w, i32_w]
                           rfl
                          refine last_ (i := 15) (N := none) #[true, true, true, true, true, true, true, true, true, true, true, true, true, true, true, true] rfl rfl (one_of HT_.out (by kernel_rfl)) (by decide) (fun K hK => ?_)
                          refine skip_ (w1 := ?_) (by rfl) rfl ?_ ?_
                          rotate_left
                          ·go_simp
                           rfl
                          refine hK.out _ _ ?_
                          clear hK K
                          refine done_ (done_of HT_.out (by kernel_rfl)) ?_
                          try go_wp2
                          (try simp only [← hl5_2])
                          go_roundg k2
                          case measure => have := HK1.out; have := HK2.out; omega
                          case rel => exact ⟨(y397), (wrap64 (x7_2 - 1)), (by first | rfl | (simp; done) | (simp [*]; done)), H', ⟨by have := HK1.out; have := HK2.out; omega⟩, ⟨by (try simp only [hl5_2]); (with_reducible repeat (first | apply Kd.S_alloc | apply Kd.S_drewN | apply Kd.S_drew)); exact HQ52.out⟩, ⟨by repeat (first | (with_reducible first | exact HB.out | apply below_alloc | apply pw_below_drewN | apply below_drew1 | refine below_set ?_ GB49.out) | exact HB.out)⟩⟩
                         ·rw [if_neg c48] at H
                          exact absurd H (by simp)
                        ·rw [if_neg c47] at H
                         exact absurd H (by simp)
                       ·rw [if_neg c46] at H
                        exact absurd H (by simp)
                      ·rw [if_neg c44] at H
                       exact absurd H (by simp)
                     ·rw [if_neg c43] at H
                      exact absurd H (by simp)
                    ·rw [if_neg c41] at H
                     exact absurd H (by simp)
                   ·rw [if_neg c40] at H
                    have c40b0 : ((rdOf ByteArray.empty l0 x6_1).toList == (rdOf ByteArray.empty l1 x7_2).toList) = false := beq_eq_false_iff_ne.mpr c40
                    have c40b1 : ((rdOf ByteArray.empty l0 x6_1).toList != (rdOf ByteArray.empty l1 x7_2).toList) = true := bne_iff_ne.mpr c40
                    by_cases c54 : x6_1 < (x5_2.length : Int)
                    ·rw [if_pos c54] at H
                     have c54b0 : decide (x6_1 < (x5_2.length : Int)) = true := decide_eq_true c54
                     clear c54
                     obtain ⟨ji55, hji55⟩ : ∃ j_ : Int, (wrap64 (x6_1 + 1)) = j_ := ⟨_, rfl⟩
                     replace H : (if 0 ≤ (ji55) then (if (ji55) < (x5_2.length : Int) then (if x7_2 < ((rd_L6 x5_2 (ji55)).length : Int) then (if 0 ≤ (wrap64 (x7_2 + 1)) then (if (wrap64 (x7_2 + 1)) < ((rd_L6 x5_2 x6_1).length : Int) then (if x7_2 < ((rd_L6 x5_2 x6_1).length : Int) then (frame_distances.l1 k2 l0 l1 (x5_2.set (x6_1 : Int).toNat ((rd_L6 x5_2 x6_1).set (x7_2 : Int).toNat (IntKind.u16.wrap (1 + (mn (rd (rd_L6 x5_2 (ji55)) x7_2) (rd (rd_L6 x5_2 x6_1) (wrap64 (x7_2 + 1)))))))) x6_1 (wrap64 (x7_2 - 1))) else (none)) else (none)) else (none)) else (none)) else (none)) else (none)) = some r := by first | (rw [hji55] at H; exact H) | (simp only [hji55] at H ⊢; exact H)
                     have hji55w : (IntKind.i64.wrap (x6_1 + 1)) = ji55 := (i64_w _).trans hji55
                     by_cases c56 : 0 ≤ (ji55)
                     ·rw [if_pos c56] at H
                      have c56b0 : decide (0 ≤ (ji55)) = true := decide_eq_true c56
                      clear c56
                      by_cases c57 : (ji55) < (x5_2.length : Int)
                      ·rw [if_pos c57] at H
                       have c57b0 : decide ((ji55) < (x5_2.length : Int)) = true := decide_eq_true c57
                       clear c57
                       by_cases c58 : x7_2 < ((rd_L6 x5_2 (ji55)).length : Int)
                       ·rw [if_pos c58] at H
                        have c58b0 : decide (x7_2 < ((rd_L6 x5_2 (ji55)).length : Int)) = true := decide_eq_true c58
                        clear c58
                        obtain ⟨ji59, hji59⟩ : ∃ j_ : Int, (wrap64 (x7_2 + 1)) = j_ := ⟨_, rfl⟩
                        replace H : (if 0 ≤ (ji59) then (if (ji59) < ((rd_L6 x5_2 x6_1).length : Int) then (if x7_2 < ((rd_L6 x5_2 x6_1).length : Int) then (frame_distances.l1 k2 l0 l1 (x5_2.set (x6_1 : Int).toNat ((rd_L6 x5_2 x6_1).set (x7_2 : Int).toNat (IntKind.u16.wrap (1 + (mn (rd (rd_L6 x5_2 (ji55)) x7_2) (rd (rd_L6 x5_2 x6_1) (ji59))))))) x6_1 (wrap64 (x7_2 - 1))) else (none)) else (none)) else (none)) = some r := by first | (rw [hji59] at H; exact H) | (simp only [hji59] at H ⊢; exact H)
                        have hji59w : (IntKind.i64.wrap (x7_2 + 1)) = ji59 := (i64_w _).trans hji59
                        by_cases c60 : 0 ≤ (ji59)
                        ·rw [if_pos c60] at H
                         have c60b0 : decide (0 ≤ (ji59)) = true := decide_eq_true c60
                         clear c60
                         by_cases c61 : (ji59) < ((rd_L6 x5_2 x6_1).length : Int)
                         ·rw [if_pos c61] at H
                          have c61b0 : decide ((ji59) < ((rd_L6 x5_2 x6_1).length : Int)) = true := decide_eq_true c61
                          clear c61
                          obtain ⟨ji62, hji62⟩ : ∃ j_ : Int, (mn (rd (rd_L6 x5_2 (ji55)) x7_2) (rd (rd_L6 x5_2 x6_1) (ji59))) = j_ := ⟨_, rfl⟩
                          replace H : (if x7_2 < ((rd_L6 x5_2 x6_1).length : Int) then (frame_distances.l1 k2 l0 l1 (x5_2.set (x6_1 : Int).toNat ((rd_L6 x5_2 x6_1).set (x7_2 : Int).toNat (IntKind.u16.wrap (1 + (ji62))))) x6_1 (wrap64 (x7_2 - 1))) else (none)) = some r := by first | (rw [hji62] at H; exact H) | (simp only [hji62] at H ⊢; exact H)
                          have hji62_ : (if (rd (rd_L6 x5_2 x6_1) (ji59)) < (rd (rd_L6 x5_2 (ji55)) x7_2) then (rd (rd_L6 x5_2 x6_1) (ji59)) else (rd (rd_L6 x5_2 (ji55)) x7_2)) = ji62 := hji62
                          by_cases c63 : x7_2 < ((rd_L6 x5_2 x6_1).length : Int)
                          ·rw [if_pos c63] at H
                           have c63b0 : decide (x7_2 < ((rd_L6 x5_2 x6_1).length : Int)) = true := decide_eq_true c63
                           clear c63
                           obtain ⟨y403, hy403⟩ : ∃ y_ : List Int, y_ = ((rd_L6 x5_2 x6_1).set (x7_2 : Int).toNat (IntKind.u16.wrap (1 + (ji62)))) := ⟨_, rfl⟩
                           replace H : (frame_distances.l1 k2 l0 l1 (x5_2.set (x6_1 : Int).toNat y403) x6_1 (wrap64 (x7_2 - 1))) = some r := by first | (rw [hy403]; with_reducible exact H) | (have H2_ := (Option.bind_some _ _).symm.trans H; rw [hy403]; with_reducible exact H2_) | (have H2_ := (Option.bind_some _ _).symm.trans H; with_reducible exact H2_) | with_reducible exact H | (rw [hy403]; exact H) | exact H
                           have Ny403 := Aside0.mk hy403
                           clear hy403
                           obtain ⟨y405, hy405⟩ : ∃ y_ : List (List Int), y_ = (x5_2.set (x6_1 : Int).toNat y403) := ⟨_, rfl⟩
                           replace H : (frame_distances.l1 k2 l0 l1 y405 x6_1 (wrap64 (x7_2 - 1))) = some r := by first | (rw [hy405]; with_reducible exact H) | (have H2_ := (Option.bind_some _ _).symm.trans H; rw [hy405]; with_reducible exact H2_) | (have H2_ := (Option.bind_some _ _).symm.trans H; with_reducible exact H2_) | with_reducible exact H | (rw [hy405]; exact H) | exact H
                           have Ny405 := Aside0.mk hy405
                           clear hy405
                           have H' := Aside0.mk H
                           clear H
                           try go_wp2
                           have n0_ := Aside0.mk (Kd.S_drew HO_5.out)
                           have n1_ := Aside0.mk (below_drew1 HB.out)
                           clear HO_5
                           clear HB
                           have HO_5 := n0_
                           have HB := n1_
                           clear n0_ n1_
                           have p390 : 0 ≤ (x6_1 : Int) := of_decide_eq_true (by first | (with_reducible assumption) | assumption)
                           have q390 : x6_1 < (l0.length : Int) := of_decide_eq_true (by first | (with_reducible assumption) | assumption)
                           obtain ⟨ad390, e390, hx390_0⟩ := Kd.at_string HR0.out x6_1 p390 q390
                           have hw390_0 := hx390_0
                           cases e390
                           replace hx390_0 := (HB.out.cell (World.block_lt_of_cell? w _ hx390_0)).trans hx390_0
                           replace p390 := eq_true p390
                           replace q390 := eq_true q390
                           have p391 : 0 ≤ (x7_2 : Int) := of_decide_eq_true (by first | (with_reducible assumption) | assumption)
                           have q391 : x7_2 < (l1.length : Int) := of_decide_eq_true (by first | (with_reducible assumption) | assumption)
                           obtain ⟨ad391, e391, hx391_0⟩ := Kd.at_string HR1.out x7_2 p391 q391
                           have hw391_0 := hx391_0
                           cases e391
                           replace hx391_0 := (HB.out.cell (World.block_lt_of_cell? w _ hx391_0)).trans hx391_0
                           replace p391 := eq_true p391
                           replace q391 := eq_true q391
                           refine start_ (n := 10) (S := fun w' => w'.cell? (ad390.add (x6_1).toNat) = some (.string (rdOf ByteArray.empty l0 x6_1)) ∧ w'.cell? (ad391.add (x7_2).toNat) = some (.string (rdOf ByteArray.empty l1 x7_2))) (ds := []) #[false, false, false, false, false, false, false, false, false, false] (by kernel_rfl) rfl rfl ⟨((HB.out.cell (World.block_lt_of_cell? w _ hw390_0)).trans hw390_0), ((HB.out.cell (World.block_lt_of_cell? w _ hw391_0)).trans hw391_0)⟩ (fun hHeld => ?_); refine with_tabW frame_distances.tab14 frame_distances.bits14 (fun HT_ HW_ => ?_)
                           generalize wr.drew = w65 at HO_5 HB hx390_0 hx391_0 hHeld ⊢
                           refine pure_ (i := 0) (N := some 88) (v := ?_) (a' := ?_) #[true, false, false, false, false, false, false, false, false, false] rfl rfl (any_of HT_.out (by kernel_rfl)) (fun _ _ _ h => h) (Or.inl ⟨by rfl, ?_⟩) ?_ ?_
                           rotate_left
                           ·intro w'
                            go_simp
                            with_reducible rfl
                           rotate_left
                           ·simp only [Act.put, sA_, sB_, sC_, i64_w, i32_w]
                            rfl
                           refine pure_ (i := 1) (N := some 89) (v := ?_) (a' := ?_) #[true, true, false, false, false, false, false, false, false, false] rfl rfl (any_of HT_.out (by kernel_rfl)) (fun _ _ _ h => h) (Or.inl ⟨by rfl, ?_⟩) ?_ ?_
                           rotate_left
                           ·intro w'
                            go_simp
                            with_reducible rfl
                           rotate_left
                           ·simp only [Act.put, sA_, sB_, sC_, i64_w, i32_w]
                            rfl
                           refine pure_ (i := 2) (N := some 90) (v := ?_) (a' := ?_) #[true, true, true, false, false, false, false, false, false, false] rfl rfl (any_of HT_.out (by kernel_rfl)) (fun _ _ _ h => h) (Or.inl ⟨by rfl, ?_⟩) ?_ ?_
                           rotate_left
                           ·intro w'
                            go_simp
                            with_reducible rfl
                           rotate_left
                           ·simp only [Act.put, sA_, sB_, sC_, i64_w, i32_w]
                            rfl
                           refine pure_ (i := 4) (N := some 92) (v := ?_) (a' := ?_) #[true, true, true, false, true, false, false, false, false, false] rfl rfl (any_of HT_.out (by kernel_rfl)) (fun _ _ _ h => h) (Or.inl ⟨by rfl, ?_⟩) ?_ ?_
                           rotate_left
                           ·intro w'
                            go_simp
                            with_reducible rfl
                           rotate_left
                           ·simp only [Act.put, sA_, sB_, sC_, i64_w, i32_w]
                            rfl
                           refine pure_ (i := 5) (N := some 93) (v := ?_) (a' := ?_) #[true, true, true, false, true, true, false, false, false, false] rfl rfl (any_of HT_.out (by kernel_rfl)) (fun _ _ _ h => h) (Or.inl ⟨by rfl, ?_⟩) ?_ ?_
                           rotate_left
                           ·intro w'
                            go_simp
                            with_reducible rfl
                           rotate_left
                           ·simp only [Act.put, sA_, sB_, sC_, i64_w, i32_w]
                            rfl
                           refine pure_ (i := 6) (N := some 94) (v := ?_) (a' := ?_) #[true, true, true, false, true, true, true, false, false, false] rfl rfl (any_of HT_.out (by kernel_rfl)) (fun _ _ _ h => h) (Or.inl ⟨by rfl, ?_⟩) ?_ ?_
                           rotate_left
                           ·intro w'
                            go_simp
                            with_reducible rfl
                           rotate_left
                           ·simp only [Act.put, sA_, sB_, sC_, i64_w, i32_w]
                            rfl
                           refine take_ (i := 3) (N := some 91) (v := ?_) (a' := ?_) #[true, true, true, true, true, true, true, false, false, false] rfl rfl (take_ofW HT_.out HW_.out (by kernel_rfl)) (fun _ _ _ h => h) (Or.inl ⟨by rfl, ?_⟩) hHeld ?_ ?_
                           rotate_left
                           ·rintro w' ⟨s0, s1⟩
                            go_simp
                            with_reducible rfl
                           rotate_left
                           ·simp only [Act.put, sA_, sB_, sC_, i64_w, i32_w]
                            rfl
                           refine take_ (i := 7) (N := some 95) (v := ?_) (a' := ?_) #[true, true, true, true, true, true, true, true, false, false] rfl rfl (take_ofW HT_.out HW_.out (by kernel_rfl)) (fun _ _ _ h => h) (Or.inl ⟨by rfl, ?_⟩) hHeld ?_ ?_
                           rotate_left
                           ·rintro w' ⟨s0, s1⟩
                            go_simp
                            with_reducible rfl
                           rotate_left
                           ·simp only [Act.put, sA_, sB_, sC_, i64_w, i32_w]
                            rfl
                           refine pure_ (i := 8) (N := some 96) (v := ?_) (a' := ?_) #[true, true, true, true, true, true, true, true, true, false] rfl rfl (any_of HT_.out (by kernel_rfl)) (fun _ _ _ h => h) (Or.inl ⟨by rfl, ?_⟩) ?_ ?_
                           rotate_left
                           ·intro w'
                            go_simp
                            with_reducible rfl
                           rotate_left
                           ·simp only [Act.put, sA_, sB_, sC_, i64_w, i32_w]
                            rfl
                           refine pure_ (i := 9) (N := some 87) (v := ?_) (a' := ?_) #[true, true, true, true, true, true, true, true, true, true] rfl rfl (any_of HT_.out (by kernel_rfl)) (fun _ _ _ h => h) (Or.inl ⟨by rfl, ?_⟩) ?_ ?_
                           rotate_left
                           ·intro w'
                            go_simp
                            with_reducible rfl
                           rotate_left
                           ·simp only [Act.put, sA_, sB_, sC_, i64_w, i32_w]
                            rfl
                           refine done_ (done_of HT_.out (by kernel_rfl)) ?_
                           try go_wp2
                           have n0_ := Aside0.mk (Kd.S_drew HO_5.out)
                           have n1_ := Aside0.mk (below_drew1 HB.out)
                           clear HO_5
                           clear HB
                           have HO_5 := n0_
                           have HB := n1_
                           clear n0_ n1_
                           have p398 : 0 ≤ (x6_1 : Int) := of_decide_eq_true (by first | (with_reducible assumption) | assumption)
                           have q398 : x6_1 < (x5_2.length : Int) := of_decide_eq_true (by first | (with_reducible assumption) | assumption)
                           obtain ⟨ad398, A398_0, c398_0, e398, hx398_0, hl398_0, hi398_0⟩ := at_L6 (Kd.S_reads' HO_5.out).2.2 x6_1 p398 q398
                           obtain rfl : (⟨go14, 0, none⟩ : Addr) = ad398 := (by injection e398)
                           obtain ⟨ce398, hce398, hMe398, hcc398⟩ := Kd.S_get HO_5.out [] x6_1 p398 (by first | exact q398 | exact of_decide_eq_true (by first | (with_reducible assumption) | assumption) | (have e_ := (Kd.S_reads' HO_5.out).1; omega))
                           obtain ⟨ve398_0, rfl, ge398_0⟩ := hMe398
                           have hv398_0 := hcc398 0 _ rfl
                           rw [Nat.add_zero, show ((Kd.slice 24 (Kd.int .u16))).sz = 1 from rfl, Nat.mul_one] at hv398_0
                           replace hv398_0 := Option.some.inj (hv398_0.symm.trans hx398_0)
                           rw [hv398_0] at ge398_0
                           have HL398_0 := Aside0.mk (show Kd.R (Kd.int .u16) 24 _ _ _ _ (rd_L6 x5_2 x6_1) from ge398_0)
                           clear hv398_0 ge398_0
                           have HX398_0 := Aside0.mk hx398_0
                           clear hcc398 hce398
                           (first | simp only [add_plain] at hx398_0 | simp only [add_at] at hx398_0 | simp only [Addr.add, Nat.zero_add] at hx398_0 | skip)
                           have HR398_0 := Aside0.mk hi398_0
                           have HC398_0 := Aside0.mk hl398_0
                           clear hi398_0 hl398_0
                           replace p398 := eq_true p398
                           replace q398 := eq_true q398
                           have p399 : 0 ≤ ((ji55) : Int) := of_decide_eq_true (by first | (with_reducible assumption) | assumption)
                           have q399 : (ji55) < (x5_2.length : Int) := of_decide_eq_true (by first | (with_reducible assumption) | assumption)
                           obtain ⟨ad399, A399_0, c399_0, e399, hx399_0, hl399_0, hi399_0⟩ := at_L6 (Kd.S_reads' HO_5.out).2.2 (ji55) p399 q399
                           obtain rfl : (⟨go14, 0, none⟩ : Addr) = ad399 := (by injection e399)
                           obtain ⟨ce399, hce399, hMe399, hcc399⟩ := Kd.S_get HO_5.out [] (ji55) p399 (by first | exact q399 | exact of_decide_eq_true (by first | (with_reducible assumption) | assumption) | (have e_ := (Kd.S_reads' HO_5.out).1; omega))
                           obtain ⟨ve399_0, rfl, ge399_0⟩ := hMe399
                           have hv399_0 := hcc399 0 _ rfl
                           rw [Nat.add_zero, show ((Kd.slice 24 (Kd.int .u16))).sz = 1 from rfl, Nat.mul_one] at hv399_0
                           replace hv399_0 := Option.some.inj (hv399_0.symm.trans hx399_0)
                           rw [hv399_0] at ge399_0
                           have HL399_0 := Aside0.mk (show Kd.R (Kd.int .u16) 24 _ _ _ _ (rd_L6 x5_2 (ji55)) from ge399_0)
                           clear hv399_0 ge399_0
                           have HX399_0 := Aside0.mk hx399_0
                           clear hcc399 hce399
                           (first | simp only [add_plain] at hx399_0 | simp only [add_at] at hx399_0 | simp only [Addr.add, Nat.zero_add] at hx399_0 | skip)
                           have HR399_0 := Aside0.mk hi399_0
                           have HC399_0 := Aside0.mk hl399_0
                           clear hi399_0 hl399_0
                           replace p399 := eq_true p399
                           replace q399 := eq_true q399
                           have p400 : 0 ≤ (x7_2 : Int) := of_decide_eq_true (by first | (with_reducible assumption) | assumption)
                           have q400 : x7_2 < ((rd_L6 x5_2 (ji55)).length : Int) := of_decide_eq_true (by first | (with_reducible assumption) | assumption)
                           obtain ⟨ad400, e400, hx400_0⟩ := Kd.at_int (by repeat (first | (with_reducible exact HR399_0.out) | (with_reducible refine Kd.C_alloc ?_ _) | (with_reducible refine Kd.C_drewN ?_ _) | (with_reducible refine Kd.C_drew ?_) | exact HR399_0.out)) x7_2 p400 q400
                           cases e400
                           replace p400 := eq_true p400
                           replace q400 := eq_true q400
                           have p401 : 0 ≤ (x6_1 : Int) := of_decide_eq_true (by first | (with_reducible assumption) | assumption)
                           have q401 : x6_1 < (x5_2.length : Int) := of_decide_eq_true (by first | (with_reducible assumption) | assumption)
                           obtain ⟨ad401, A401_0, c401_0, e401, hx401_0, hl401_0, hi401_0⟩ := at_L6 (Kd.S_reads' HO_5.out).2.2 x6_1 p401 q401
                           obtain rfl : (⟨go14, 0, none⟩ : Addr) = ad401 := (by injection e401)
                           obtain ⟨ce401, hce401, hMe401, hcc401⟩ := Kd.S_get HO_5.out [] x6_1 p401 (by first | exact q401 | exact of_decide_eq_true (by first | (with_reducible assumption) | assumption) | (have e_ := (Kd.S_reads' HO_5.out).1; omega))
                           obtain ⟨ve401_0, rfl, ge401_0⟩ := hMe401
                           have hv401_0 := hcc401 0 _ rfl
                           rw [Nat.add_zero, show ((Kd.slice 24 (Kd.int .u16))).sz = 1 from rfl, Nat.mul_one] at hv401_0
                           replace hv401_0 := Option.some.inj (hv401_0.symm.trans hx401_0)
                           rw [hv401_0] at ge401_0
                           have HL401_0 := Aside0.mk (show Kd.R (Kd.int .u16) 24 _ _ _ _ (rd_L6 x5_2 x6_1) from ge401_0)
                           clear hv401_0 ge401_0
                           have HX401_0 := Aside0.mk hx401_0
                           clear hcc401 hce401
                           (first | simp only [add_plain] at hx401_0 | simp only [add_at] at hx401_0 | simp only [Addr.add, Nat.zero_add] at hx401_0 | skip)
                           have HR401_0 := Aside0.mk hi401_0
                           have HC401_0 := Aside0.mk hl401_0
                           clear hi401_0 hl401_0
                           replace p401 := eq_true p401
                           replace q401 := eq_true q401
                           have ea_ := Option.some.inj (hx398_0.symm.trans hx401_0)
                           injection ea_ with ea_ en_ ec_
                           subst ea_
                           subst ec_
                           clear en_
                           have p402 : 0 ≤ ((ji59) : Int) := of_decide_eq_true (by first | (with_reducible assumption) | assumption)
                           have q402 : (ji59) < ((rd_L6 x5_2 x6_1).length : Int) := of_decide_eq_true (by first | (with_reducible assumption) | assumption)
                           obtain ⟨ad402, e402, hx402_0⟩ := Kd.at_int (by repeat (first | (with_reducible exact HR401_0.out) | (with_reducible refine Kd.C_alloc ?_ _) | (with_reducible refine Kd.C_drewN ?_ _) | (with_reducible refine Kd.C_drew ?_) | exact HR401_0.out)) (ji59) p402 q402
                           cases e402
                           replace p402 := eq_true p402
                           replace q402 := eq_true q402
                           have p64 : 0 ≤ (x7_2 : Int) := of_decide_eq_true (by first | (with_reducible assumption) | assumption)
                           have q64 : (x7_2 : Int) < (((rd_L6 x5_2 x6_1).length : Int) : Int) := of_decide_eq_true (by first | (with_reducible assumption) | assumption)
                           obtain ⟨go64, co64, eo64, gb64, gl64, cl64, HG64⟩ := Kd.R_form HL398_0.out (by omega)
                           (first | cases eo64 | (injection eo64 with ea_ en_ ec_; (first | subst ea_ | (injection ea_ with ea_; subst ea_)); subst ec_; clear en_))
                           have GB64 := Aside0.mk gb64
                           have GG64 := Aside0.mk HG64
                           clear gb64 gl64 HG64
                           (first | simp only [add_plain] at hx402_0 | skip)
                           obtain ⟨hx64_0, hf64_0⟩ := Kd.R_celln 0 HL398_0.out (x7_2 : Int) p64 q64
                           replace p64 := eq_true p64
                           replace q64 := eq_true q64
                           have hq67 : (x6_1 : Int) < (x5_2.length : Int) := (by have h_ : (x6_1 : Int) < ((x5_2.length : Int) : Int) := of_decide_eq_true (by first | (with_reducible assumption) | assumption); first | exact h_ | (have e_ := (Kd.S_reads' HO_5.out).1; omega) | simpa only [List.length_set, List.length_set] using h_)
                           obtain ⟨oki67, ce67, hcl67, hM67, hcc67, hok67, hbk67⟩ := Kd.S_borrow HO_5.out [] (x6_1 : Int) (of_decide_eq_true (by first | (with_reducible assumption) | assumption)) hq67
                           obtain ⟨ve67_0, rfl, ge67_0⟩ := hM67
                           have hv67 := hcc67 0 _ rfl
                           rw [Nat.add_zero, show ((Kd.slice 24 (Kd.int .u16))).sz = 1 from rfl, Nat.mul_one] at hv67
                           replace hv67 := Option.some.inj (hv67.symm.trans HX398_0.out)
                           subst hv67
                           clear hcc67 hcl67
                           replace ge67_0 := (show Kd.R (Kd.int .u16) 24 _ _ _ _ (rd_L6 x5_2 x6_1) from ge67_0)
                           have HP67 := Kd.R_putg ge67_0 (x7_2 : Int) (IntKind.u16.wrap (1 + (ji62)))
                           rw [← Ny403.out] at HP67
                           have HS67 := hbk67 HP67.2 (fun k_ e_ => by injection e_ with e_; subst e_; exact ge67_0.1 _ rfl) (x' := y403) (Kd.M_row HP67.1)
                           rw [← Ny405.out] at HS67
                           have HQ67 := Aside0.mk HS67
                           clear HP67 HS67 hbk67 hok67
                           refine start_ (n := 25) (S := fun w' => w'.cell? ⟨go14, (x6_1).toNat, none⟩ = some (.slice (some ⟨go64, 0, none⟩) (rd_L6 x5_2 x6_1).length c398_0) ∧ w'.cell? ⟨go14, ((ji55)).toNat, none⟩ = some (.slice (some ad400) (rd_L6 x5_2 (ji55)).length c399_0) ∧ w'.cell? (ad400.add (x7_2).toNat) = some (.int .u16 (rd (rd_L6 x5_2 (ji55)) x7_2)) ∧ w'.cell? ⟨go14, (x6_1).toNat, none⟩ = some (.slice (some ⟨go64, 0, none⟩) (rd_L6 x5_2 x6_1).length c398_0) ∧ w'.cell? ⟨go64, ((ji59)).toNat, none⟩ = some (.int .u16 (rd (rd_L6 x5_2 x6_1) (ji59)))) (ds := [24]) #[false, false, false, false, false, false, false, false, false, false, false, false, false, false, false, false, false, false, false, false, false, false, false, false, false] (by kernel_rfl) rfl rfl ⟨hx398_0, hx399_0, hx400_0, hx401_0, hx402_0⟩ (fun hHeld => ?_); refine with_tabW frame_distances.tab9 frame_distances.bits9 (fun HT_ HW_ => ?_)
                           generalize w65.drew = w66 at HO_5 HB GG64 HL398_0 HL399_0 HL401_0 HQ67 HR398_0 HR399_0 HR401_0 HX398_0 HX399_0 HX401_0 hf64_0 hx398_0 hx399_0 hx400_0 hx401_0 hx402_0 hx64_0 hHeld ⊢
                           refine pure_ (i := 0) (N := some 31) (v := ?_) (a' := ?_) #[true, false, false, false, false, false, false, false, false, false, false, false, false, false, false, false, false, false, false, false, false, false, false, false, false] rfl rfl (any_of HT_.out (by kernel_rfl)) (fun _ _ _ h => h) (Or.inl ⟨by rfl, ?_⟩) ?_ ?_
                           rotate_left
                           ·intro w'
                            go_simp
                            with_reducible rfl
                           rotate_left
                           ·simp only [Act.put, sA_, sB_, sC_, i64_w, i32_w]
                            rfl
                           refine pure_ (i := 1) (N := some 32) (v := ?_) (a' := ?_) #[true, true, false, false, false, false, false, false, false, false, false, false, false, false, false, false, false, false, false, false, false, false, false, false, false] rfl rfl (any_of HT_.out (by kernel_rfl)) (fun _ _ _ h => h) (Or.inl ⟨by rfl, ?_⟩) ?_ ?_
                           rotate_left
                           ·intro w'
                            go_simp
                            with_reducible rfl
                           rotate_left
                           ·simp only [Act.put, sA_, sB_, sC_, i64_w, i32_w]
                            rfl
                           refine pure_ (i := 2) (N := some 33) (v := ?_) (a' := ?_) #[true, true, true, false, false, false, false, false, false, false, false, false, false, false, false, false, false, false, false, false, false, false, false, false, false] rfl rfl (any_of HT_.out (by kernel_rfl)) (fun _ _ _ h => h) (Or.inl ⟨by rfl, ?_⟩) ?_ ?_
                           rotate_left
                           ·intro w'
                            go_simp
                            with_reducible rfl
                           rotate_left
                           ·simp only [Act.put, sA_, sB_, sC_, i64_w, i32_w]
                            rfl
                           refine pure_ (i := 4) (N := some 35) (v := ?_) (a' := ?_) #[true, true, true, false, true, false, false, false, false, false, false, false, false, false, false, false, false, false, false, false, false, false, false, false, false] rfl rfl (any_of HT_.out (by kernel_rfl)) (fun _ _ _ h => h) (Or.inl ⟨by rfl, ?_⟩) ?_ ?_
                           rotate_left
                           ·intro w'
                            go_simp
                            with_reducible rfl
                           rotate_left
                           ·simp only [Act.put, sA_, sB_, sC_, i64_w, i32_w]
                            rfl
                           refine pure_ (i := 5) (N := some 36) (v := ?_) (a' := ?_) #[true, true, true, false, true, true, false, false, false, false, false, false, false, false, false, false, false, false, false, false, false, false, false, false, false] rfl rfl (any_of HT_.out (by kernel_rfl)) (fun _ _ _ h => h) (Or.inl ⟨by rfl, ?_⟩) ?_ ?_
                           rotate_left
                           ·intro w'
                            go_simp
                            with_reducible rfl
                           rotate_left
                           ·simp only [Act.put, sA_, sB_, sC_, i64_w, i32_w]
                            rfl
                           refine pure_ (i := 6) (N := some 37) (v := ?_) (a' := ?_) #[true, true, true, false, true, true, true, false, false, false, false, false, false, false, false, false, false, false, false, false, false, false, false, false, false] rfl rfl (any_of HT_.out (by kernel_rfl)) (fun _ _ _ h => h) (Or.inl ⟨by rfl, ?_⟩) ?_ ?_
                           rotate_left
                           ·intro w'
                            go_simp
                            with_reducible rfl
                           rotate_left
                           ·simp only [Act.put, sA_, sB_, sC_, i64_w, i32_w]
                            rfl
                           refine pure_ (i := 7) (N := some 38) (v := ?_) (a' := ?_) #[true, true, true, false, true, true, true, true, false, false, false, false, false, false, false, false, false, false, false, false, false, false, false, false, false] rfl rfl (any_of HT_.out (by kernel_rfl)) (fun _ _ _ h => h) (Or.inl ⟨by rfl, ?_⟩) ?_ ?_
                           rotate_left
                           ·intro w'
                            go_simp
                            with_reducible rfl
                           rotate_left
                           ·simp only [Act.put, sA_, sB_, sC_, i64_w, i32_w]
                            rfl
                           refine pure_ (i := 8) (N := some 39) (v := ?_) (a' := ?_) #[true, true, true, false, true, true, true, true, true, false, false, false, false, false, false, false, false, false, false, false, false, false, false, false, false] rfl rfl (any_of HT_.out (by kernel_rfl)) (fun _ _ _ h => h) (Or.inl ⟨by rfl, ?_⟩) ?_ ?_
                           rotate_left
                           ·intro w'
                            go_simp
                            with_reducible rfl
                           rotate_left
                           ·simp only [Act.put, sA_, sB_, sC_, i64_w, i32_w]
                            rfl
                           refine pure_ (i := 10) (N := some 41) (v := ?_) (a' := ?_) #[true, true, true, false, true, true, true, true, true, false, true, false, false, false, false, false, false, false, false, false, false, false, false, false, false] rfl rfl (any_of HT_.out (by kernel_rfl)) (fun _ _ _ h => h) (Or.inl ⟨by rfl, ?_⟩) ?_ ?_
                           rotate_left
                           ·intro w'
                            go_simp
                            with_reducible rfl
                           rotate_left
                           ·simp only [Act.put, sA_, sB_, sC_, i64_w, i32_w]
                            rfl
                           refine pure_ (i := 13) (N := some 44) (v := ?_) (a' := ?_) #[true, true, true, false, true, true, true, true, true, false, true, false, false, true, false, false, false, false, false, false, false, false, false, false, false] rfl rfl (any_of HT_.out (by kernel_rfl)) (fun _ _ _ h => h) (Or.inl ⟨by rfl, ?_⟩) ?_ ?_
                           rotate_left
                           ·intro w'
                            go_simp
                            with_reducible rfl
                           rotate_left
                           ·simp only [Act.put, sA_, sB_, sC_, i64_w, i32_w]
                            rfl
                           refine pure_ (i := 14) (N := some 45) (v := ?_) (a' := ?_) #[true, true, true, false, true, true, true, true, true, false, true, false, false, true, true, false, false, false, false, false, false, false, false, false, false] rfl rfl (any_of HT_.out (by kernel_rfl)) (fun _ _ _ h => h) (Or.inl ⟨by rfl, ?_⟩) ?_ ?_
                           rotate_left
                           ·intro w'
                            go_simp
                            with_reducible rfl
                           rotate_left
                           ·simp only [Act.put, sA_, sB_, sC_, i64_w, i32_w]
                            rfl
                           refine pure_ (i := 15) (N := some 46) (v := ?_) (a' := ?_) #[true, true, true, false, true, true, true, true, true, false, true, false, false, true, true, true, false, false, false, false, false, false, false, false, false] rfl rfl (any_of HT_.out (by kernel_rfl)) (fun _ _ _ h => h) (Or.inl ⟨by rfl, ?_⟩) ?_ ?_
                           rotate_left
                           ·intro w'
                            go_simp
                            with_reducible rfl
                           rotate_left
                           ·simp only [Act.put, sA_, sB_, sC_, i64_w, i32_w]
                            rfl
                           refine pure_ (i := 17) (N := some 48) (v := ?_) (a' := ?_) #[true, true, true, false, true, true, true, true, true, false, true, false, false, true, true, true, false, true, false, false, false, false, false, false, false] rfl rfl (any_of HT_.out (by kernel_rfl)) (fun _ _ _ h => h) (Or.inl ⟨by rfl, ?_⟩) ?_ ?_
                           rotate_left
                           ·intro w'
                            go_simp
                            with_reducible rfl
                           rotate_left
                           ·simp only [Act.put, sA_, sB_, sC_, i64_w, i32_w]
                            rfl
                           refine pure_ (i := 18) (N := some 49) (v := ?_) (a' := ?_) #[true, true, true, false, true, true, true, true, true, false, true, false, false, true, true, true, false, true, true, false, false, false, false, false, false] rfl rfl (any_of HT_.out (by kernel_rfl)) (fun _ _ _ h => h) (Or.inl ⟨by rfl, ?_⟩) ?_ ?_
                           rotate_left
                           ·intro w'
                            go_simp
                            with_reducible rfl
                           rotate_left
                           ·simp only [Act.put, sA_, sB_, sC_, i64_w, i32_w]
                            rfl
                           refine take_ (i := 3) (N := some 34) (v := ?_) (a' := ?_) #[true, true, true, true, true, true, true, true, true, false, true, false, false, true, true, true, false, true, true, false, false, false, false, false, false] rfl rfl (take_ofW HT_.out HW_.out (by kernel_rfl)) (fun _ _ _ h => h) (Or.inl ⟨by rfl, ?_⟩) hHeld ?_ ?_
                           rotate_left
                           ·rintro w' ⟨s0, s1, s2, s3, s4⟩
                            go_simp
                            with_reducible rfl
                           rotate_left
                           ·simp only [Act.put, sA_, sB_, sC_, i64_w, i32_w]
                            rfl
                           refine take_ (i := 9) (N := some 40) (v := ?_) (a' := ?_) #[true, true, true, true, true, true, true, true, true, true, true, false, false, true, true, true, false, true, true, false, false, false, false, false, false] rfl rfl (take_ofW HT_.out HW_.out (by kernel_rfl)) (fun _ _ _ h => h) (Or.inl ⟨by rfl, ?_⟩) hHeld ?_ ?_
                           rotate_left
                           ·rintro w' ⟨s0, s1, s2, s3, s4⟩
                            go_simp
                            with_reducible rfl
                           rotate_left
                           ·simp only [Act.put, sA_, sB_, sC_, i64_w, i32_w]
                            rfl
                           refine pure_ (i := 11) (N := some 42) (v := ?_) (a' := ?_) #[true, true, true, true, true, true, true, true, true, true, true, true, false, true, true, true, false, true, true, false, false, false, false, false, false] rfl rfl (any_of HT_.out (by kernel_rfl)) (fun _ _ _ h => h) (Or.inl ⟨by rfl, ?_⟩) ?_ ?_
                           rotate_left
                           ·intro w'
                            go_simp
                            with_reducible rfl
                           rotate_left
                           ·simp only [Act.put, sA_, sB_, sC_, i64_w, i32_w]
                            rfl
                           refine take_ (i := 12) (N := some 43) (v := ?_) (a' := ?_) #[true, true, true, true, true, true, true, true, true, true, true, true, true, true, true, true, false, true, true, false, false, false, false, false, false] rfl rfl (take_ofW HT_.out HW_.out (by kernel_rfl)) (fun _ _ _ h => h) (Or.inl ⟨by rfl, ?_⟩) hHeld ?_ ?_
                           rotate_left
                           ·rintro w' ⟨s0, s1, s2, s3, s4⟩
                            go_simp
                            with_reducible rfl
                           rotate_left
                           ·simp only [Act.put, sA_, sB_, sC_, i64_w, i32_w]
                            rfl
                           refine take_ (i := 16) (N := some 47) (v := ?_) (a' := ?_) #[true, true, true, true, true, true, true, true, true, true, true, true, true, true, true, true, true, true, true, false, false, false, false, false, false] rfl rfl (take_ofW HT_.out HW_.out (by kernel_rfl)) (fun _ _ _ h => h) (Or.inl ⟨by rfl, ?_⟩) hHeld ?_ ?_
                           rotate_left
                           ·rintro w' ⟨s0, s1, s2, s3, s4⟩
                            go_simp
                            with_reducible rfl
                           rotate_left
                           ·simp only [Act.put, sA_, sB_, sC_, i64_w, i32_w]
                            rfl
                           refine pure_ (i := 19) (N := some 50) (v := ?_) (a' := ?_) #[true, true, true, true, true, true, true, true, true, true, true, true, true, true, true, true, true, true, true, true, false, false, false, false, false] rfl rfl (any_of HT_.out (by kernel_rfl)) (fun _ _ _ h => h) (Or.inl ⟨by rfl, ?_⟩) ?_ ?_
                           rotate_left
                           ·intro w'
                            go_simp
                            with_reducible rfl
                           rotate_left
                           ·simp only [Act.put, sA_, sB_, sC_, i64_w, i32_w]
                            rfl
                           refine take_ (i := 20) (N := some 51) (v := ?_) (a' := ?_) #[true, true, true, true, true, true, true, true, true, true, true, true, true, true, true, true, true, true, true, true, true, false, false, false, false] rfl rfl (take_ofW HT_.out HW_.out (by kernel_rfl)) (fun _ _ _ h => h) (Or.inl ⟨by rfl, ?_⟩) hHeld ?_ ?_
                           rotate_left
                           ·rintro w' ⟨s0, s1, s2, s3, s4⟩
                            go_simp
                            with_reducible rfl
                           rotate_left
                           ·simp only [Act.put, sA_, sB_, sC_, i64_w, i32_w]
                            rfl
                           refine pure_ (i := 21) (N := some 52) (v := ?_) (a' := ?_) #[true, true, true, true, true, true, true, true, true, true, true, true, true, true, true, true, true, true, true, true, true, true, false, false, false] rfl rfl (any_of HT_.out (by kernel_rfl)) (fun _ _ _ h => h) (Or.inl ⟨by rfl, ?_⟩) ?_ ?_
                           rotate_left
                           ·intro w'
                            go_simp
                            with_reducible rfl
                           rotate_left
                           ·simp only [Act.put, sA_, sB_, sC_, i64_w, i32_w]
                            rfl
                           refine pure_ (i := 22) (N := some 53) (v := ?_) (a' := ?_) #[true, true, true, true, true, true, true, true, true, true, true, true, true, true, true, true, true, true, true, true, true, true, true, false, false] rfl rfl (any_of HT_.out (by kernel_rfl)) (fun _ _ _ h => h) (Or.inl ⟨by rfl, ?_⟩) ?_ ?_
                           rotate_left
                           ·intro w'
                            go_simp
                            with_reducible rfl
                           rotate_left
                           ·simp only [Act.put, sA_, sB_, sC_, i64_w, i32_w]
                            rfl
                           refine pure_ (i := 23) (N := some 54) (v := ?_) (a' := ?_) #[true, true, true, true, true, true, true, true, true, true, true, true, true, true, true, true, true, true, true, true, true, true, true, true, false] rfl rfl (any_of HT_.out (by kernel_rfl)) (fun _ _ _ h => h) (Or.inl ⟨by rfl, ?_⟩) ?_ ?_
                           rotate_left
                           ·intro w'
                            go_simp
                            with_reducible rfl
                           rotate_left
                           ·simp only [Act.put, sA_, sB_, sC_, i64_w, i32_w]
                            rfl
                           refine last_ (i := 24) (N := none) #[true, true, true, true, true, true, true, true, true, true, true, true, true, true, true, true, true, true, true, true, true, true, true, true, true] rfl rfl (one_of HT_.out (by kernel_rfl)) (by decide) (fun K hK => ?_)
                           refine skip_ (w1 := ?_) (by rfl) rfl ?_ ?_
                           rotate_left
                           ·go_simp
                            rfl
                           refine hK.out _ _ ?_
                           clear hK K
                           refine done_ (done_of HT_.out (by kernel_rfl)) ?_
                           try go_wp2
                           (try simp only [← hl5_2])
                           go_roundg k2
                           case measure => have := HK1.out; have := HK2.out; omega
                           case rel => exact ⟨(y405), (wrap64 (x7_2 - 1)), (by first | rfl | (simp; done) | (simp [*]; done)), H', ⟨by have := HK1.out; have := HK2.out; omega⟩, ⟨by (try simp only [hl5_2]); (with_reducible repeat (first | apply Kd.S_alloc | apply Kd.S_drewN | apply Kd.S_drew)); exact HQ67.out⟩, ⟨by repeat (first | (with_reducible first | exact HB.out | apply below_alloc | apply pw_below_drewN | apply below_drew1 | refine below_set ?_ GB64.out) | exact HB.out)⟩⟩
                          ·rw [if_neg c63] at H
                           exact absurd H (by simp)
                         ·rw [if_neg c61] at H
                          exact absurd H (by simp)
                        ·rw [if_neg c60] at H
                         exact absurd H (by simp)
                       ·rw [if_neg c58] at H
                        exact absurd H (by simp)
                      ·rw [if_neg c57] at H
                       exact absurd H (by simp)
                     ·rw [if_neg c56] at H
                      exact absurd H (by simp)
                    ·rw [if_neg c54] at H
                     exact absurd H (by simp)
                  ·rw [if_neg c39] at H
                   exact absurd H (by simp)
                 ·rw [if_neg c38] at H
                  exact absurd H (by simp)
                ·rw [if_neg c37] at H
                 exact absurd H (by simp)
               ·rw [if_neg c36] at H
                exact absurd H (by simp)
            ·rw [if_neg c19] at H
             have c19b0 : decide (0 ≤ x7_2) = false := decide_eq_false c19
             clear c19
             have H' := Aside0.mk H
             clear H
             go_wp2
             (try simp only [← hl5_2])
             go_roundg k2
             case measure => have := HK1.out; have := HK2.out; omega
             case rel => exact ⟨(x5_2), (wrap64 (x6_1 - 1)), (by first | rfl | (simp; done) | (simp [*]; done)), H', ⟨by have := HK1.out; have := HK2.out; omega⟩, ⟨by (try simp only [hl5_2]); (with_reducible repeat (first | apply Kd.S_alloc | apply Kd.S_drewN | apply Kd.S_drew)); exact HO_5.out⟩, ⟨by repeat (first | (with_reducible first | exact HB.out | apply below_alloc | apply pw_below_drewN | apply below_drew1) | exact HB.out)⟩⟩
         ·rw [if_neg c13] at H
          exact absurd H (by simp)
        ·rw [if_neg c12] at H
         exact absurd H (by simp)
       ·rw [if_neg c11] at H
        exact absurd H (by simp)
      ·rw [if_neg c10] at H
       exact absurd H (by simp)
     ·rw [if_neg c8] at H
      have c8b0 : decide (0 ≤ x6_1) = false := decide_eq_false c8
      clear c8
      obtain rfl := Option.some.inj H
      go_wp2
      go_ret
      exact ⟨_, by first | rfl | (simp [errW_none, errW_some] <;> rfl) | (simp only [← hji3]; first | rfl | (simp [errW_none, errW_some] <;> rfl)) | (simp [*, errW_none, errW_some] <;> rfl), by (with_reducible repeat (first | apply Kd.S_alloc | apply Kd.S_drewN | apply Kd.S_drew)); exact HO_5.out, by repeat (first | (with_reducible first | exact HB.out | apply below_alloc | apply pw_below_drewN | apply below_drew1) | exact HB.out)⟩
  ·rw [if_neg c5] at H
   exact absurd H (by simp)
 ·rw [if_neg c4] at H
  exact absurd H (by simp)
end Go.Proofs.YtfpopmojlmpopaaDoor.G

end
section
namespace Go.Proofs.YtfpopmojlmpopaaDoor.H
open Go.RowKit Go.Proofs.YtfpopmojlmpopaaDoorW.PrintWords Go.Proofs.YtfpopmojlmpopaaDoorW.PrintLast Go.Proofs.YtfpopmojlmpopaaDoorW.PrintMore Go.Proofs.YtfpopmojlmpopaaDoor.G
set_option linter.unusedVariables false
set_option linter.unusedSimpArgs false
def shapeOk (T : List (List Int)) (n m : Nat) : Bool := decide (T.length = n + 1) && T.all (fun r => decide (r.length = m + 1))
def tabAt (T : List (List Int)) (i k : Nat) : Int := rd (T.getD i []) k
def lastE (out : List S52) : S52 := rd_T52 out ((out.length : Int) - 1)
def gapE (out : List S52) (gap : Bool) (i : Nat) : List S52 := if gap = true then out else out ++ [⟨(i : Int), 0, []⟩]
def stepDel (out : List S52) : List S52 := bumpE out out.length (wrap64 ((lastE out).f1 + 1))
def stepAdd (out : List S52) (s : ByteArray) : List S52 := addE out out.length ((lastE out).f2 ++ [s])
def dfl (T : List (List Int)) (a b : List ByteArray) : Nat → List S52 → Bool → Nat → Nat → Option (List S52)
 | 0, _, _, _, _ => none
 | f + 1, out, gap, i, k =>
  if i < a.length ∨ k < b.length then
   if i < a.length ∧ k < b.length ∧ rdOf ByteArray.empty a i = rdOf ByteArray.empty b k then dfl T a b f out false (i + 1) (k + 1)
   else if 0 < (gapE out gap i).length ∧ out.length < 1000000000000 ∧ (lastE (gapE out gap i)).f2.length < 8796093022208 then
    if i < a.length ∧ (k = b.length ∨ tabAt T (i + 1) k ≤ tabAt T i (k + 1)) then dfl T a b f (stepDel (gapE out gap i)) true (i + 1) k
    else dfl T a b f (stepAdd (gapE out gap i) (rdOf ByteArray.empty b k)) true i (k + 1)
   else none
  else some out
def frame_Diff.f (K : Nat) (l0 l1 : List ByteArray) : Option (List S52 × Int) :=
 (frame_lineError.f K l0).bind fun e0 => if e0 = 0 then (frame_lineError.f K l1).bind fun e1 => if e1 = 0 then (frame_distances.f K l0 l1).bind fun T =>
  if shapeOk T l0.length l1.length = true then (dfl T l0 l1 K [] false 0 0).bind fun o => some (o, 0) else none
 else some ([], 1) else some ([], 1)
theorem w64 (n : Int) (h : -9223372036854775808 ≤ n ∧ n ≤ 9223372036854775807) : wrap64 n = n := by unfold wrap64; omega
theorem dif_gap {α : Type} {P : Prop} [Decidable P] {x : Option α} {o : α} (h : (if P then x else none) = some o) : P ∧ x = some o := by
 by_cases hp : P
 ·rw [if_pos hp] at h; exact ⟨hp, h⟩
 ·rw [if_neg hp] at h; cases h
theorem str_ne {x y : ByteArray} (h : ¬ x = y) : (x.toList == y.toList) = false := by
 rw [ByteArray.toList_eq, ByteArray.toList_eq, beq_eq_false_iff_ne]
 intro hc
 apply h
 obtain ⟨⟨x⟩⟩ := x
 obtain ⟨⟨y⟩⟩ := y
 simp only at hc
 rw [hc]
theorem shape_at {T : List (List Int)} {n m : Nat} (h : shapeOk T n m = true) : T.length = n + 1 ∧ ∀ i : Nat, i < n + 1 → (rd_L6 T (i : Int)).length = m + 1 := by
 unfold shapeOk at h
 rw [Bool.and_eq_true, decide_eq_true_eq, List.all_eq_true] at h
 refine ⟨h.1, fun i hi => ?_⟩
 have := h.2 (T[i]'(by omega)) (List.getElem_mem _)
 simpa [rd_L6, List.getD, show i < T.length from by omega] using this
set_option maxHeartbeats 8000000 in
set_option maxRecDepth 100000 in
theorem frame_Diff.calls (K : Nat) (A0 : Option Addr) (c0 : Nat) (l0 : List ByteArray) (A1 : Option Addr) (c1 : Nat) (l1 : List ByteArray) (r1 : List S52) (r2 : Int) (w : World) (hr0 : Kd.C Kd.string w A0 l0.length l0) (hc0 : l0.length ≤ c0) (hr1 : Kd.C Kd.string w A1 l1.length l1) (hc1 : l1.length ≤ c1) (h : frame_Diff.f K l0 l1 = some (r1, r2)) :
  Calls Tryd.prog 20 #[.slice A0 l0.length c0, .slice A1 l1.length c1] w fun e w' => ∃ v, e = .returned (.tuple #[v, .int .i64 r2]) ∧ Kd.S k52 52 w' w.heap.size (fun _ => True) v r1 ∧ Below w.heap.size w w' := by
 have HR0 := Lib.hid hr0
 have HR1 := Lib.hid hr1
 have hm0 := Kd.C_max hr0
 have hm1 := Kd.C_max hr1
 clear hr0 hr1
 unfold frame_Diff.f at h
 replace h := Option.bind_eq_some_iff.mp h
 obtain ⟨e0, he0, h⟩ := h
 have E0 := Lib.hid he0
 clear he0
 go_enter Tryd.func20, Tryd.ntmps20
 by_cases hz0 : e0 = 0
 ·rw [if_pos hz0] at h
  replace h := Option.bind_eq_some_iff.mp h
  obtain ⟨e1, he1, h⟩ := h
  have E1 := Lib.hid he1
  clear he1
  have a0 : (e0 == 0) = true := beq_iff_eq.mpr hz0
  have a1 : (e0 != 0) = false := bne_eq_false_iff_eq.mpr hz0
  clear hz0
  go_wp2_with fail
  refine (frame_lineError.calls K A0 c0 l0 e0 w HR0.out hc0 E0.out).mono ?_
  rintro e w1 ⟨rfl, hd1⟩
  have HB1 := Lib.hid hd1.below
  clear hd1
  go_wp2_with fail
  refine (frame_lineError.calls K A1 c1 l1 e1 w1 (Kd.C_below HR1.out HB1.out) hc1 E1.out).mono ?_
  rintro e w2 ⟨rfl, hd2⟩
  have HB2 : Hid (Below w.heap.size w w2) := Lib.hid (HB1.out.trans (hd2.below.mono HB1.out.size))
  clear hd2 HB1
  by_cases hz1 : e1 = 0
  ·rw [if_pos hz1] at h
   have b0 : (e1 == 0) = true := beq_iff_eq.mpr hz1
   have b1 : (e1 != 0) = false := bne_eq_false_iff_eq.mpr hz1
   clear hz1
   replace h := Option.bind_eq_some_iff.mp h
   obtain ⟨T, hT, h⟩ := h
   have ET := Lib.hid hT
   clear hT
   by_cases hsh : shapeOk T l0.length l1.length = true
   ·rw [if_pos hsh] at h
    have HSH := Lib.hid (shape_at hsh)
    clear hsh
    replace h := Option.bind_eq_some_iff.mp h
    obtain ⟨o, ho, h⟩ := h
    simp only [Option.some.injEq, Prod.mk.injEq] at h
    obtain ⟨rfl, rfl⟩ := h
    have HO := Lib.hid ho
    clear ho
    go_wp2_with fail
    refine (frame_distances.calls K A0 c0 l0 A1 c1 l1 T w2 (Kd.C_below HR0.out HB2.out) hc0 (Kd.C_below HR1.out HB2.out) hc1 ET.out).mono ?_
    rintro e w3 ⟨vT, rfl, hS, hb⟩
    have HB3 : Hid (Below w.heap.size w w3) := Lib.hid (HB2.out.trans (hb.mono HB2.out.size))
    have HT3 := Lib.hid (Kd.S_lower hS HB2.out.size)
    obtain ⟨AT, cT, rfl, hcT, -⟩ := Kd.S_reads hS
    clear hS hb HB2
    go_wp2_with fail
    go_loopg [7, 8, 9, 10] K (fun kq v7 v8 v9 v10 w' => ∃ (out : List S52) (gap : Bool) (i k : Nat), v8 = .bool gap ∧ v9 = .int .i64 i ∧ v10 = .int .i64 k ∧ i ≤ l0.length ∧ k ≤ l1.length ∧ Hid (dfl T l0 l1 kq out gap i k = some o) ∧ Hid (kq ≤ K) ∧ Hid (SE w' w.heap.size (fun _ => True) v7 out) ∧ Hid (Kd.S (Kd.slice 24 (Kd.int .u16)) 77 w' w.heap.size (fun _ => True) (.slice AT T.length cT) T) ∧ Hid (Below w.heap.size w w'))
    case atStart => exact ⟨[], false, 0, 0, rfl, rfl, rfl, by omega, by omega, Lib.hid HO.out, Lib.hid (Nat.le_refl _), Lib.hid (Kd.S_nil _ _ _ _ _), Lib.hid HT3.out, Lib.hid HB3.out⟩
    case round =>
     clear HO HT3 HB3
     obtain ⟨out, gap, i, k, rfl, rfl, rfl, hi, hk, HA, HK1, HS, HT, HB⟩ := hrel
     cases gk with
     | zero => exact absurd HA.out (by simp [dfl])
     | succ k1 =>
      have hd := HA.out
      clear HA
      rw [dfl] at hd
      by_cases hi2 : i < l0.length
      ·have i0 := decide_eq_true (show (i : Int) < (l0.length : Int) from by omega)
       have i1 := eq_true (show (i : Int) < (l0.length : Int) from by omega)
       have i2 := eq_true (show (0 : Int) ≤ (i : Int) from by omega)
       obtain ⟨ada, ea, ha⟩ := Kd.at_string (Kd.C_below HR0.out HB.out) (i : Int) (by omega) (by omega)
       rw [Int.toNat_natCast] at ha
       subst ea
       by_cases hk2 : k < l1.length
       ·have k0 := decide_eq_true (show (k : Int) < (l1.length : Int) from by omega)
        have k01 := eq_true (show (k : Int) < (l1.length : Int) from by omega)
        have k02 := eq_true (show (0 : Int) ≤ (k : Int) from by omega)
        have k3 : ((k : Int) == (l1.length : Int)) = false := beq_eq_false_iff_ne.mpr (by omega)
        obtain ⟨adb, eb, hbb⟩ := Kd.at_string (Kd.C_below HR1.out HB.out) (k : Int) (by omega) (by omega)
        rw [Int.toNat_natCast] at hbb
        subst eb
        rw [if_pos (Or.inl hi2)] at hd
        by_cases heq : rdOf ByteArray.empty l0 (i : Int) = rdOf ByteArray.empty l1 (k : Int)
        ·rw [if_pos ⟨hi2, hk2, heq⟩] at hd
         have q0 : ((rdOf ByteArray.empty l0 (i : Int)).toList == (rdOf ByteArray.empty l1 (k : Int)).toList) = true := by rw [heq]; exact beq_self_eq_true _
         have HD := Lib.hid hd
         clear hd heq
         go_wp2_with fail
         go_quiet (fail)
         go_wp2_with fail
         go_roundg k1
         case measure => have := HK1.out; omega
         case rel => exact ⟨out, false, i + 1, k + 1, by go_num, by go_num, by go_num, by omega, by omega, Lib.hid HD.out, Lib.hid (by have := HK1.out; omega), Lib.hid (Kd.S_drewN HS.out _), Lib.hid (Kd.S_drewN HT.out _), Lib.hid (pw_below_drewN HB.out _)⟩
        ·rw [if_neg (fun h => heq h.2.2)] at hd
         have q0 : ((rdOf ByteArray.empty l0 (i : Int)).toList == (rdOf ByteArray.empty l1 (k : Int)).toList) = false := str_ne heq
         clear heq
         cases gap
         ·skip
          have HC := Lib.hid hd
          clear hd
          obtain ⟨⟨hn1, hbn, hf2⟩, hd⟩ := dif_gap HC.out
          clear HC
          simp only [gapE, Bool.false_eq_true, if_false] at hn1 hf2 hd
          obtain ⟨out1, hout1⟩ : ∃ out1, out ++ [(⟨(i : Int), 0, []⟩ : S52)] = out1 := ⟨_, rfl⟩
          rw [hout1] at hn1 hf2 hd
          have HN := Lib.hid hn1
          have HBND := Lib.hid hbn
          have HF2 := Lib.hid hf2
          have HD := Lib.hid hd
          clear hf2 hd hbn
          obtain ⟨jn, hjn⟩ : ∃ jn : Int, wrap64 ((out1.length : Int) - 1) = jn := ⟨_, rfl⟩
          have hjv : jn = (out1.length : Int) - 1 := by rw [← hjn]; exact w64 _ (by have h1 := HBND.out; have h2 : out1.length = out.length + 1 := by { rw [← hout1]; simp }; omega)
          have hjw : IntKind.i64.wrap ((out1.length : Int) - 1) = jn := (i64_w _).trans hjn
          have n0 := eq_true (show (0 : Int) ≤ jn from by omega)
          have n1 := eq_true (show jn < (out1.length : Int) from by omega)
          have n2 : jn.toNat = out1.length - 1 := by omega
          clear hjv
          clear hn1
          go_wp2_with fail
          go_quiet (fail)
          have HS1 := Lib.hid (Kd.S_drewN HS.out nq)
          have HT1 := Lib.hid (Kd.S_drewN HT.out nq)
          have HB1 := Lib.hid (pw_below_drewN HB.out nq)
          generalize wr.drewN nq = wq at HS1 HT1 HB1 ⊢
          clear HS HT HB
          (try clear ha)
          (try clear hbb)
          go_wp2_with (first
           | ((with_reducible refine gate_builtin (b := .append) (xs := #[.tmp 60, .tmp 63]) rfl ?_); at_builtin; refine Kd.S_append k52 (w0 := w) w.heap.size rfl (.tmp 60) (.tmp 63) 29 52 (.agg #[(.int .i64 0), (.int .i64 0), (.slice none 0 0)]) 40 rfl Tryd.underlying29 info52 rfl (by decide) (by omega) u7 out ⟨(i : Int), 0, []⟩ [.int .i64 (i : Int), .int .i64 0, .slice none 0 0] (fun _ => True) (fun _ => False) rfl rfl (k52_mkM _ _ _ _ (Kd.R_nil _ _ _ _ _)) (fun _ hk => hk.elim) (fun _ _ => trivial) (Kd.S_mono HS1.out (fun _ _ => ⟨trivial, fun h => h⟩)) HB1.out HB1.out.size (by have := HBND.out; omega) ?_; intro v79 w79 ho hb hg hat; rw [hout1] at ho; have HTW := Lib.hid (rows_grown 52 HT1.out hg (se_typed HS1.out) (by decide)); have HBW := Lib.hid hb; have HSW0 := ho; obtain ⟨g, cap, rfl, -, -, -, -⟩ := Kd.S_form ho HN.out; have HSW := Lib.hid HSW0; clear ho HSW0 hb hg hat))
          obtain ⟨hT1, hT2⟩ := HSH.out
          have t1 : (rd_L6 T ((i : Int) + 1)).length = l1.length + 1 := hT2 (i + 1) (by omega)
          have t2 : (rd_L6 T (i : Int)).length = l1.length + 1 := hT2 i (by omega)
          obtain ⟨ji, hji⟩ : ∃ ji : Int, wrap64 ((i : Int) + 1) = ji := ⟨_, rfl⟩
          obtain ⟨jk, hjk⟩ : ∃ jk : Int, wrap64 ((k : Int) + 1) = jk := ⟨_, rfl⟩
          have hjiw : IntKind.i64.wrap ((i : Int) + 1) = ji := (i64_w _).trans hji
          have hjkw : IntKind.i64.wrap ((k : Int) + 1) = jk := (i64_w _).trans hjk
          have vi : ji = (i : Int) + 1 := by rw [← hji]; exact w64 _ (by omega)
          have vk : jk = (k : Int) + 1 := by rw [← hjk]; exact w64 _ (by omega)
          rw [← vi] at t1
          have x7 : ji.toNat = i + 1 := by omega
          have x8 : jk.toNat = k + 1 := by omega
          have hCT := (Kd.S_reads' HTW.out).2.2
          obtain ⟨adT, At1, cc1, eT, hx1, -, hC1⟩ := at_L6 hCT ji (by omega) (by omega)
          subst eT
          obtain ⟨ad1, e1', hy1⟩ := Kd.at_int hC1 (k : Int) (by omega) (by omega)
          subst e1'
          obtain ⟨adT', At2, cc2, eT, hx2, -, hC2⟩ := at_L6 hCT (i : Int) (by omega) (by omega)
          obtain rfl := Option.some.inj eT
          obtain ⟨ad2, e2', hy2⟩ := Kd.at_int hC2 jk (by omega) (by omega)
          subst e2'
          rw [Int.toNat_natCast] at hx2 hy1
          have y1 := eq_true (show (0 : Int) ≤ ji from by omega)
          have y2 := eq_true (show ji < (T.length : Int) from by omega)
          have y3 := eq_true (show (i : Int) < (T.length : Int) from by omega)
          have y4 := eq_true (show (k : Int) < ((rd_L6 T ji).length : Int) from by omega)
          have y5 := eq_true (show jk < ((rd_L6 T (i : Int)).length : Int) from by omega)
          have y6 := eq_true (show (0 : Int) ≤ jk from by omega)
          have tt : (tabAt T (i + 1) k ≤ tabAt T i (k + 1)) ↔ rd (rd_L6 T ji) (k : Int) ≤ rd (rd_L6 T (i : Int)) jk := by unfold tabAt rd_L6; rw [x7, Int.toNat_natCast, vk]; exact Iff.rfl
          have HVI := Lib.hid vi
          have HVK := Lib.hid vk
          clear vi vk x7 x8
          have hkn : ¬ k = l1.length := by omega
          clear hT1 hT2 t1 t2 hCT hC1 hC2 eT
          by_cases hle : rd (rd_L6 T ji) (k : Int) ≤ rd (rd_L6 T (i : Int)) jk
          ·have hd := HD.out
           rw [if_pos ⟨hi2, .inr (tt.2 hle)⟩] at hd
           clear HD
           have HD := Lib.hid hd
           have y7 := decide_eq_true hle
           clear hd hle tt
           go_quiet (fail)
           have HSZ := Lib.hid (Kd.S_drewN HSW.out nq)
           have HTZ := Lib.hid (Kd.S_drewN HTW.out nq)
           have HBZ := Lib.hid (pw_below_drewN HBW.out nq)
           generalize w79.drewN nq = wz at HSZ HTZ HBZ ⊢
           clear HSW HTW HBW
           obtain ⟨oki, v2, hR, hlt, hH⟩ := last_get HSZ.out HN.out
           obtain ⟨z0, z1, z2, zf⟩ := last_cells hH HN.out
           have z1f := zf 1
           have HR := Lib.hid hR
           have HH := Lib.hid hH
           clear hR hlt hH zf z0 z2
           obtain ⟨cz, hz⟩ := se_typed HSZ.out g rfl
           have HZG := Lib.hid hz
           clear hz
           go_wp2_with fail
           go_roundg k1
           case measure => have := HK1.out; omega
           case rel => exact ⟨stepDel out1, true, i + 1, k, rfl, by first | go_num | (rw [HVI.out]; rfl) | (simp only [HVI.out]; rfl), rfl, by omega, by omega, Lib.hid HD.out, Lib.hid (by have := HK1.out; omega), Lib.hid (last_bump HN.out HR.out HH.out _), Lib.hid (Kd.S_set HTZ.out HZG.out (by decide) _ _), Lib.hid (below_set HBZ.out (Kd.S_base HSZ.out g rfl))⟩
          ·have hd := HD.out
           rw [if_neg (fun h => h.2.elim hkn (fun h => hle (tt.1 h)))] at hd
           clear HD
           have HD := Lib.hid hd
           have y7 := decide_eq_false hle
           clear hd hle tt
           go_quiet (fail)
           have HSZ := Lib.hid (Kd.S_drewN HSW.out nq)
           have HTZ := Lib.hid (Kd.S_drewN HTW.out nq)
           have HBZ := Lib.hid (pw_below_drewN HBW.out nq)
           generalize w79.drewN nq = wz at HSZ HTZ HBZ ⊢
           clear HSW HTW HBW
           have HSD := Lib.hid (Kd.S_drew HSZ.out)
           have HTD := Lib.hid (Kd.S_drew HTZ.out)
           have HBD := Lib.hid (below_drew HBZ.out)
           obtain ⟨oki, v2, hR, hlt, hH⟩ := last_get HSD.out HN.out
           obtain ⟨A2, c2, rfl, -, -⟩ := Kd.R_reads hR
           have HH := Lib.hid hH
           obtain ⟨z0, z1, z2, zf⟩ := last_cells hH HN.out
           have HR := Lib.hid hR
           have HLT := Lib.hid hlt
           clear hR hlt hH zf z0 z1
           obtain ⟨adb', eb', sb⟩ := Kd.at_string (Kd.C_below HR1.out HBD.out) (k : Int) (by omega) (by omega)
           obtain rfl := Option.some.inj eb'
           rw [Int.toNat_natCast] at sb
           clear eb'
           obtain ⟨cz, hz⟩ := se_typed HSD.out g rfl
           have HZG := Lib.hid hz
           clear hz
           go_wp2_with fail
           refine start_ (n := 14) (S := fun w' => w'.cell? ⟨g, (out1.length - 1) * 3 + 2, none⟩ = some (.slice A2 (rd_T52 out1 ((out1.length : Int) - 1)).f2.length c2) ∧ w'.cell? (adb.add k) = some (.string (rdOf ByteArray.empty l1 (k : Int)))) (ds := [13]) #[false, false, false, false, false, false, false, false, false, false, false, false, false, false] (by kernel_rfl) rfl rfl ⟨z2, sb⟩ (fun hHeld => ?_)
           generalize wz.drew = wd at HSD HTD HBD HH HR HLT HZG z2 sb hHeld ⊢
           refine pure_ (i := 0) (N := some 108) (v := ?_) (a' := ?_) #[true, false, false, false, false, false, false, false, false, false, false, false, false, false] rfl rfl (by kernel_rfl) (fun _ _ _ h => h) (Or.inl ⟨by rfl, ?_⟩) ?_ ?_
           rotate_left
           ·intro w'
            go_simp
            with_reducible rfl
           rotate_left
           ·simp only [Act.put, sA_, sB_, sC_, i64_w, i32_w]
            rfl
           refine pure_ (i := 1) (N := some 109) (v := ?_) (a' := ?_) #[true, true, false, false, false, false, false, false, false, false, false, false, false, false] rfl rfl (by kernel_rfl) (fun _ _ _ h => h) (Or.inl ⟨by rfl, ?_⟩) ?_ ?_
           rotate_left
           ·intro w'
            go_simp
            with_reducible rfl
           rotate_left
           ·simp only [Act.put, sA_, sB_, sC_, i64_w, i32_w]
            rfl
           refine pure_ (i := 2) (N := some 110) (v := ?_) (a' := ?_) #[true, true, true, false, false, false, false, false, false, false, false, false, false, false] rfl rfl (by kernel_rfl) (fun _ _ _ h => h) (Or.inl ⟨by rfl, ?_⟩) ?_ ?_
           rotate_left
           ·intro w'
            go_simp
            with_reducible rfl
           rotate_left
           ·simp only [Act.put, sA_, sB_, sC_, i64_w, i32_w]
            rfl
           refine pure_ (i := 3) (N := some 111) (v := ?_) (a' := ?_) #[true, true, true, true, false, false, false, false, false, false, false, false, false, false] rfl rfl (by kernel_rfl) (fun _ _ _ h => h) (Or.inl ⟨by rfl, ?_⟩) ?_ ?_
           rotate_left
           ·intro w'
            go_simp
            with_reducible rfl
           rotate_left
           ·simp only [Act.put, sA_, sB_, sC_, i64_w, i32_w]
            rfl
           refine pure_ (i := 5) (N := some 113) (v := ?_) (a' := ?_) #[true, true, true, true, false, true, false, false, false, false, false, false, false, false] rfl rfl (by kernel_rfl) (fun _ _ _ h => h) (Or.inl ⟨by rfl, ?_⟩) ?_ ?_
           rotate_left
           ·intro w'
            go_simp
            with_reducible rfl
           rotate_left
           ·simp only [Act.put, sA_, sB_, sC_, i64_w, i32_w]
            rfl
           refine pure_ (i := 6) (N := some 114) (v := ?_) (a' := ?_) #[true, true, true, true, false, true, true, false, false, false, false, false, false, false] rfl rfl (by kernel_rfl) (fun _ _ _ h => h) (Or.inl ⟨by rfl, ?_⟩) ?_ ?_
           rotate_left
           ·intro w'
            go_simp
            with_reducible rfl
           rotate_left
           ·simp only [Act.put, sA_, sB_, sC_, i64_w, i32_w]
            rfl
           refine pure_ (i := 7) (N := some 115) (v := ?_) (a' := ?_) #[true, true, true, true, false, true, true, true, false, false, false, false, false, false] rfl rfl (by kernel_rfl) (fun _ _ _ h => h) (Or.inl ⟨by rfl, ?_⟩) ?_ ?_
           rotate_left
           ·intro w'
            go_simp
            with_reducible rfl
           rotate_left
           ·simp only [Act.put, sA_, sB_, sC_, i64_w, i32_w]
            rfl
           refine take_ (i := 4) (N := some 112) (v := ?_) (a' := ?_) #[true, true, true, true, true, true, true, true, false, false, false, false, false, false] rfl rfl (by kernel_rfl) (fun _ _ _ h => h) (Or.inl ⟨by rfl, ?_⟩) hHeld ?_ ?_
           rotate_left
           ·rintro w' ⟨s0, s1⟩
            go_simp
            with_reducible rfl
           rotate_left
           ·simp only [Act.put, sA_, sB_, sC_, i64_w, i32_w]
            rfl
           refine take_ (i := 8) (N := some 116) (v := ?_) (a' := ?_) #[true, true, true, true, true, true, true, true, true, false, false, false, false, false] rfl rfl (by kernel_rfl) (fun _ _ _ h => h) (Or.inl ⟨by rfl, ?_⟩) hHeld ?_ ?_
           rotate_left
           ·rintro w' ⟨s0, s1⟩
            go_simp
            with_reducible rfl
           rotate_left
           ·simp only [Act.put, sA_, sB_, sC_, i64_w, i32_w]
            rfl
           refine one_ (i := 9) (N := some 117) #[true, true, true, true, true, true, true, true, true, true, false, false, false, false] rfl rfl (by kernel_rfl) (by decide) (fun K hK => ?_)
           refine value_ (w1 := ?_) (v := ?_) (by rfl) rfl ?_ ?_
           rotate_left 2
           ·go_simp
            constructor
            ·rfl
            ·rfl
           refine hK.out _ _ ⟨pw_cell_below (below_alloc (Below.refl wd.heap.size wd) _) z2, pw_cell_below (below_alloc (Below.refl wd.heap.size wd) _) sb⟩ (fun hHeld => ?_)
           clear hK K
           refine norm_ (a' := ?_) ?_ ?_
           rotate_left
           ·show Act.put _ (some 117) _ = _
            simp only [Act.put, sA_, sB_, sC_, i64_w, i32_w]
            rfl
           refine one_ (i := 10) (N := some 118) #[true, true, true, true, true, true, true, true, true, true, true, false, false, false] rfl rfl (by kernel_rfl) (by decide) (fun K hK => ?_)
           refine Kd.R_append_step Kd.string (w0 := w) w.heap.size (by rfl) (.tmp 112) (.tmp 117) 28 9 (.string ⟨#[]⟩) 16 (by rfl) Tryd.underlying28 info9 rfl (by decide) (by omega) (.slice A2 (rd_T52 out1 ((out1.length : Int) - 1)).f2.length c2) (rd_T52 out1 ((out1.length : Int) - 1)).f2 (rdOf ByteArray.empty l1 (k : Int)) [.string (rdOf ByteArray.empty l1 (k : Int))] (fun k => oki k ∨ wd.heap.size ≤ k) (fun _ => False) (by rfl) (by rfl) rfl (fun _ hk => hk.elim) (fun k hk => .inr hk) (Kd.R_mono HR.out (fun k hk => .inl hk)) HBD.out HBD.out.size (by have h1 := HF2.out; unfold lastE at h1; omega) ?_
           intro v3 w3 ho hb hg hat
           have HRV0 := ho
           obtain ⟨A3, c3, rfl, -, -⟩ := Kd.R_reads ho
           have HRV := Lib.hid HRV0
           have HGV := Lib.hid hg
           have HBV := Lib.hid hb
           clear ho hb hg hat HRV0
           have HNE : Hid (some g ≠ (Value.slice A2 (rd_T52 out1 ((out1.length : Int) - 1)).f2.length c2).ownBlock) := Lib.hid (own_ne9 HR.out HZG.out)
           obtain ⟨-, -, e4, q4⟩ := last_cells (Kd.H_grown HH.out HGV.out (fun k hk => HR.out.1 k hk)) HN.out
           have q5 := q4 2
           clear q4
           obtain ⟨adb3, eb3, sb3⟩ := Kd.at_string (Kd.C_below HR1.out HBV.out) (k : Int) (by omega) (by omega)
           obtain rfl := Option.some.inj eb3
           clear eb3
           rw [Int.toNat_natCast] at sb3
           refine hK.out _ _ ⟨e4, sb3⟩ (fun hHeld => ?_)
           clear hK K
           refine norm_ (a' := ?_) ?_ ?_
           rotate_left
           ·show Act.put _ (some 118) _ = _
            simp only [Act.put, sA_, sB_, sC_, i64_w, i32_w]
            rfl
           refine pure_ (i := 11) (N := some 119) (v := ?_) (a' := ?_) #[true, true, true, true, true, true, true, true, true, true, true, true, false, false] rfl rfl (by kernel_rfl) (fun _ _ _ h => h) (Or.inl ⟨by rfl, ?_⟩) ?_ ?_
           rotate_left
           ·intro w'
            go_simp
            with_reducible rfl
           rotate_left
           ·simp only [Act.put, sA_, sB_, sC_, i64_w, i32_w]
            rfl
           refine pure_ (i := 12) (N := some 120) (v := ?_) (a' := ?_) #[true, true, true, true, true, true, true, true, true, true, true, true, true, false] rfl rfl (by kernel_rfl) (fun _ _ _ h => h) (Or.inl ⟨by rfl, ?_⟩) ?_ ?_
           rotate_left
           ·intro w'
            go_simp
            with_reducible rfl
           rotate_left
           ·simp only [Act.put, sA_, sB_, sC_, i64_w, i32_w]
            rfl
           refine last_ (i := 13) (N := none) #[true, true, true, true, true, true, true, true, true, true, true, true, true, true] rfl rfl (by kernel_rfl) (by decide) (fun K hK => ?_)
           refine skip_ (w1 := ?_) (by rfl) rfl ?_ ?_
           rotate_left
           ·go_simp
            rfl
           refine hK.out _ _ ?_
           clear hK K
           refine done_ (by kernel_rfl) ?_
           have HFIN := Lib.hid (last_add (W1 := w3) HN.out HLT.out HGV.out HR.out HRV.out HH.out (blk_lt HZG.out))
           have HT3 := Lib.hid (rows_grown 9 HTD.out HGV.out (fun k hk => by
            obtain ⟨inner, ho⟩ := Kd.R_own HR.out
            exact own_typed ho k hk) (by decide))
           go_wp2_with fail
           go_roundg k1
           case measure => have := HK1.out; omega
           case rel => exact ⟨stepAdd out1 (rdOf ByteArray.empty l1 (k : Int)), true, i, k + 1, rfl, rfl, by first | go_num | (rw [HVK.out]; rfl) | (simp only [HVK.out]; rfl), by omega, by omega, Lib.hid HD.out, Lib.hid (by have := HK1.out; omega), Lib.hid (by have h := HFIN.out; rw [List.length_append, List.length_singleton] at h; exact h), Lib.hid (Kd.S_set HT3.out (blk_grown HZG.out HGV.out HNE.out) (by decide) _ _), Lib.hid (below_set HBV.out (Kd.S_base HSD.out g rfl))⟩
         ·skip
          have HC := Lib.hid hd
          clear hd
          obtain ⟨⟨hn1, hbn, hf2⟩, hd⟩ := dif_gap HC.out
          clear HC
          simp only [gapE, if_true] at hn1 hf2 hd
          obtain ⟨g, cap, rfl, -, -, -, -⟩ := Kd.S_form HS.out hn1
          have HN := Lib.hid hn1
          have HF2 := Lib.hid hf2
          have HD := Lib.hid hd
          clear hf2 hd
          obtain ⟨out1, hout1⟩ : ∃ out1, out = out1 := ⟨_, rfl⟩
          subst hout1
          obtain ⟨jn, hjn⟩ : ∃ jn : Int, wrap64 ((out.length : Int) - 1) = jn := ⟨_, rfl⟩
          have hjv : jn = (out.length : Int) - 1 := by rw [← hjn]; exact w64 _ (by omega)
          have hjw : IntKind.i64.wrap ((out.length : Int) - 1) = jn := (i64_w _).trans hjn
          have n0 := eq_true (show (0 : Int) ≤ jn from by omega)
          have n1 := eq_true (show jn < (out.length : Int) from by omega)
          have n2 : jn.toNat = out.length - 1 := by omega
          clear hjv
          clear hn1
          go_wp2_with fail
          go_quiet (fail)
          have HS1 := Lib.hid (Kd.S_drewN HS.out nq)
          have HT1 := Lib.hid (Kd.S_drewN HT.out nq)
          have HB1 := Lib.hid (pw_below_drewN HB.out nq)
          generalize wr.drewN nq = wq at HS1 HT1 HB1 ⊢
          clear HS HT HB
          (try clear ha)
          (try clear hbb)
          have HSW := HS1
          have HTW := HT1
          have HBW := HB1
          clear HS1 HT1 HB1
          go_wp2_with fail
          obtain ⟨hT1, hT2⟩ := HSH.out
          have t1 : (rd_L6 T ((i : Int) + 1)).length = l1.length + 1 := hT2 (i + 1) (by omega)
          have t2 : (rd_L6 T (i : Int)).length = l1.length + 1 := hT2 i (by omega)
          obtain ⟨ji, hji⟩ : ∃ ji : Int, wrap64 ((i : Int) + 1) = ji := ⟨_, rfl⟩
          obtain ⟨jk, hjk⟩ : ∃ jk : Int, wrap64 ((k : Int) + 1) = jk := ⟨_, rfl⟩
          have hjiw : IntKind.i64.wrap ((i : Int) + 1) = ji := (i64_w _).trans hji
          have hjkw : IntKind.i64.wrap ((k : Int) + 1) = jk := (i64_w _).trans hjk
          have vi : ji = (i : Int) + 1 := by rw [← hji]; exact w64 _ (by omega)
          have vk : jk = (k : Int) + 1 := by rw [← hjk]; exact w64 _ (by omega)
          rw [← vi] at t1
          have x7 : ji.toNat = i + 1 := by omega
          have x8 : jk.toNat = k + 1 := by omega
          have hCT := (Kd.S_reads' HTW.out).2.2
          obtain ⟨adT, At1, cc1, eT, hx1, -, hC1⟩ := at_L6 hCT ji (by omega) (by omega)
          subst eT
          obtain ⟨ad1, e1', hy1⟩ := Kd.at_int hC1 (k : Int) (by omega) (by omega)
          subst e1'
          obtain ⟨adT', At2, cc2, eT, hx2, -, hC2⟩ := at_L6 hCT (i : Int) (by omega) (by omega)
          obtain rfl := Option.some.inj eT
          obtain ⟨ad2, e2', hy2⟩ := Kd.at_int hC2 jk (by omega) (by omega)
          subst e2'
          rw [Int.toNat_natCast] at hx2 hy1
          have y1 := eq_true (show (0 : Int) ≤ ji from by omega)
          have y2 := eq_true (show ji < (T.length : Int) from by omega)
          have y3 := eq_true (show (i : Int) < (T.length : Int) from by omega)
          have y4 := eq_true (show (k : Int) < ((rd_L6 T ji).length : Int) from by omega)
          have y5 := eq_true (show jk < ((rd_L6 T (i : Int)).length : Int) from by omega)
          have y6 := eq_true (show (0 : Int) ≤ jk from by omega)
          have tt : (tabAt T (i + 1) k ≤ tabAt T i (k + 1)) ↔ rd (rd_L6 T ji) (k : Int) ≤ rd (rd_L6 T (i : Int)) jk := by unfold tabAt rd_L6; rw [x7, Int.toNat_natCast, vk]; exact Iff.rfl
          have HVI := Lib.hid vi
          have HVK := Lib.hid vk
          clear vi vk x7 x8
          have hkn : ¬ k = l1.length := by omega
          clear hT1 hT2 t1 t2 hCT hC1 hC2 eT
          by_cases hle : rd (rd_L6 T ji) (k : Int) ≤ rd (rd_L6 T (i : Int)) jk
          ·have hd := HD.out
           rw [if_pos ⟨hi2, .inr (tt.2 hle)⟩] at hd
           clear HD
           have HD := Lib.hid hd
           have y7 := decide_eq_true hle
           clear hd hle tt
           go_quiet (fail)
           have HSZ := Lib.hid (Kd.S_drewN HSW.out nq)
           have HTZ := Lib.hid (Kd.S_drewN HTW.out nq)
           have HBZ := Lib.hid (pw_below_drewN HBW.out nq)
           generalize wq.drewN nq = wz at HSZ HTZ HBZ ⊢
           clear HSW HTW HBW
           obtain ⟨oki, v2, hR, hlt, hH⟩ := last_get HSZ.out HN.out
           obtain ⟨z0, z1, z2, zf⟩ := last_cells hH HN.out
           have z1f := zf 1
           have HR := Lib.hid hR
           have HH := Lib.hid hH
           clear hR hlt hH zf z0 z2
           obtain ⟨cz, hz⟩ := se_typed HSZ.out g rfl
           have HZG := Lib.hid hz
           clear hz
           go_wp2_with fail
           go_roundg k1
           case measure => have := HK1.out; omega
           case rel => exact ⟨stepDel out, true, i + 1, k, rfl, by first | go_num | (rw [HVI.out]; rfl) | (simp only [HVI.out]; rfl), rfl, by omega, by omega, Lib.hid HD.out, Lib.hid (by have := HK1.out; omega), Lib.hid (last_bump HN.out HR.out HH.out _), Lib.hid (Kd.S_set HTZ.out HZG.out (by decide) _ _), Lib.hid (below_set HBZ.out (Kd.S_base HSZ.out g rfl))⟩
          ·have hd := HD.out
           rw [if_neg (fun h => h.2.elim hkn (fun h => hle (tt.1 h)))] at hd
           clear HD
           have HD := Lib.hid hd
           have y7 := decide_eq_false hle
           clear hd hle tt
           go_quiet (fail)
           have HSZ := Lib.hid (Kd.S_drewN HSW.out nq)
           have HTZ := Lib.hid (Kd.S_drewN HTW.out nq)
           have HBZ := Lib.hid (pw_below_drewN HBW.out nq)
           generalize wq.drewN nq = wz at HSZ HTZ HBZ ⊢
           clear HSW HTW HBW
           have HSD := Lib.hid (Kd.S_drew HSZ.out)
           have HTD := Lib.hid (Kd.S_drew HTZ.out)
           have HBD := Lib.hid (below_drew HBZ.out)
           obtain ⟨oki, v2, hR, hlt, hH⟩ := last_get HSD.out HN.out
           obtain ⟨A2, c2, rfl, -, -⟩ := Kd.R_reads hR
           have HH := Lib.hid hH
           obtain ⟨z0, z1, z2, zf⟩ := last_cells hH HN.out
           have HR := Lib.hid hR
           have HLT := Lib.hid hlt
           clear hR hlt hH zf z0 z1
           obtain ⟨adb', eb', sb⟩ := Kd.at_string (Kd.C_below HR1.out HBD.out) (k : Int) (by omega) (by omega)
           obtain rfl := Option.some.inj eb'
           rw [Int.toNat_natCast] at sb
           clear eb'
           obtain ⟨cz, hz⟩ := se_typed HSD.out g rfl
           have HZG := Lib.hid hz
           clear hz
           go_wp2_with fail
           refine start_ (n := 14) (S := fun w' => w'.cell? ⟨g, (out.length - 1) * 3 + 2, none⟩ = some (.slice A2 (rd_T52 out ((out.length : Int) - 1)).f2.length c2) ∧ w'.cell? (adb.add k) = some (.string (rdOf ByteArray.empty l1 (k : Int)))) (ds := [13]) #[false, false, false, false, false, false, false, false, false, false, false, false, false, false] (by kernel_rfl) rfl rfl ⟨z2, sb⟩ (fun hHeld => ?_)
           generalize wz.drew = wd at HSD HTD HBD HH HR HLT HZG z2 sb hHeld ⊢
           refine pure_ (i := 0) (N := some 108) (v := ?_) (a' := ?_) #[true, false, false, false, false, false, false, false, false, false, false, false, false, false] rfl rfl (by kernel_rfl) (fun _ _ _ h => h) (Or.inl ⟨by rfl, ?_⟩) ?_ ?_
           rotate_left
           ·intro w'
            go_simp
            with_reducible rfl
           rotate_left
           ·simp only [Act.put, sA_, sB_, sC_, i64_w, i32_w]
            rfl
           refine pure_ (i := 1) (N := some 109) (v := ?_) (a' := ?_) #[true, true, false, false, false, false, false, false, false, false, false, false, false, false] rfl rfl (by kernel_rfl) (fun _ _ _ h => h) (Or.inl ⟨by rfl, ?_⟩) ?_ ?_
           rotate_left
           ·intro w'
            go_simp
            with_reducible rfl
           rotate_left
           ·simp only [Act.put, sA_, sB_, sC_, i64_w, i32_w]
            rfl
           refine pure_ (i := 2) (N := some 110) (v := ?_) (a' := ?_) #[true, true, true, false, false, false, false, false, false, false, false, false, false, false] rfl rfl (by kernel_rfl) (fun _ _ _ h => h) (Or.inl ⟨by rfl, ?_⟩) ?_ ?_
           rotate_left
           ·intro w'
            go_simp
            with_reducible rfl
           rotate_left
           ·simp only [Act.put, sA_, sB_, sC_, i64_w, i32_w]
            rfl
           refine pure_ (i := 3) (N := some 111) (v := ?_) (a' := ?_) #[true, true, true, true, false, false, false, false, false, false, false, false, false, false] rfl rfl (by kernel_rfl) (fun _ _ _ h => h) (Or.inl ⟨by rfl, ?_⟩) ?_ ?_
           rotate_left
           ·intro w'
            go_simp
            with_reducible rfl
           rotate_left
           ·simp only [Act.put, sA_, sB_, sC_, i64_w, i32_w]
            rfl
           refine pure_ (i := 5) (N := some 113) (v := ?_) (a' := ?_) #[true, true, true, true, false, true, false, false, false, false, false, false, false, false] rfl rfl (by kernel_rfl) (fun _ _ _ h => h) (Or.inl ⟨by rfl, ?_⟩) ?_ ?_
           rotate_left
           ·intro w'
            go_simp
            with_reducible rfl
           rotate_left
           ·simp only [Act.put, sA_, sB_, sC_, i64_w, i32_w]
            rfl
           refine pure_ (i := 6) (N := some 114) (v := ?_) (a' := ?_) #[true, true, true, true, false, true, true, false, false, false, false, false, false, false] rfl rfl (by kernel_rfl) (fun _ _ _ h => h) (Or.inl ⟨by rfl, ?_⟩) ?_ ?_
           rotate_left
           ·intro w'
            go_simp
            with_reducible rfl
           rotate_left
           ·simp only [Act.put, sA_, sB_, sC_, i64_w, i32_w]
            rfl
           refine pure_ (i := 7) (N := some 115) (v := ?_) (a' := ?_) #[true, true, true, true, false, true, true, true, false, false, false, false, false, false] rfl rfl (by kernel_rfl) (fun _ _ _ h => h) (Or.inl ⟨by rfl, ?_⟩) ?_ ?_
           rotate_left
           ·intro w'
            go_simp
            with_reducible rfl
           rotate_left
           ·simp only [Act.put, sA_, sB_, sC_, i64_w, i32_w]
            rfl
           refine take_ (i := 4) (N := some 112) (v := ?_) (a' := ?_) #[true, true, true, true, true, true, true, true, false, false, false, false, false, false] rfl rfl (by kernel_rfl) (fun _ _ _ h => h) (Or.inl ⟨by rfl, ?_⟩) hHeld ?_ ?_
           rotate_left
           ·rintro w' ⟨s0, s1⟩
            go_simp
            with_reducible rfl
           rotate_left
           ·simp only [Act.put, sA_, sB_, sC_, i64_w, i32_w]
            rfl
           refine take_ (i := 8) (N := some 116) (v := ?_) (a' := ?_) #[true, true, true, true, true, true, true, true, true, false, false, false, false, false] rfl rfl (by kernel_rfl) (fun _ _ _ h => h) (Or.inl ⟨by rfl, ?_⟩) hHeld ?_ ?_
           rotate_left
           ·rintro w' ⟨s0, s1⟩
            go_simp
            with_reducible rfl
           rotate_left
           ·simp only [Act.put, sA_, sB_, sC_, i64_w, i32_w]
            rfl
           refine one_ (i := 9) (N := some 117) #[true, true, true, true, true, true, true, true, true, true, false, false, false, false] rfl rfl (by kernel_rfl) (by decide) (fun K hK => ?_)
           refine value_ (w1 := ?_) (v := ?_) (by rfl) rfl ?_ ?_
           rotate_left 2
           ·go_simp
            constructor
            ·rfl
            ·rfl
           refine hK.out _ _ ⟨pw_cell_below (below_alloc (Below.refl wd.heap.size wd) _) z2, pw_cell_below (below_alloc (Below.refl wd.heap.size wd) _) sb⟩ (fun hHeld => ?_)
           clear hK K
           refine norm_ (a' := ?_) ?_ ?_
           rotate_left
           ·show Act.put _ (some 117) _ = _
            simp only [Act.put, sA_, sB_, sC_, i64_w, i32_w]
            rfl
           refine one_ (i := 10) (N := some 118) #[true, true, true, true, true, true, true, true, true, true, true, false, false, false] rfl rfl (by kernel_rfl) (by decide) (fun K hK => ?_)
           refine Kd.R_append_step Kd.string (w0 := w) w.heap.size (by rfl) (.tmp 112) (.tmp 117) 28 9 (.string ⟨#[]⟩) 16 (by rfl) Tryd.underlying28 info9 rfl (by decide) (by omega) (.slice A2 (rd_T52 out ((out.length : Int) - 1)).f2.length c2) (rd_T52 out ((out.length : Int) - 1)).f2 (rdOf ByteArray.empty l1 (k : Int)) [.string (rdOf ByteArray.empty l1 (k : Int))] (fun k => oki k ∨ wd.heap.size ≤ k) (fun _ => False) (by rfl) (by rfl) rfl (fun _ hk => hk.elim) (fun k hk => .inr hk) (Kd.R_mono HR.out (fun k hk => .inl hk)) HBD.out HBD.out.size (by have h1 := HF2.out; unfold lastE at h1; omega) ?_
           intro v3 w3 ho hb hg hat
           have HRV0 := ho
           obtain ⟨A3, c3, rfl, -, -⟩ := Kd.R_reads ho
           have HRV := Lib.hid HRV0
           have HGV := Lib.hid hg
           have HBV := Lib.hid hb
           clear ho hb hg hat HRV0
           have HNE : Hid (some g ≠ (Value.slice A2 (rd_T52 out ((out.length : Int) - 1)).f2.length c2).ownBlock) := Lib.hid (own_ne9 HR.out HZG.out)
           obtain ⟨-, -, e4, q4⟩ := last_cells (Kd.H_grown HH.out HGV.out (fun k hk => HR.out.1 k hk)) HN.out
           have q5 := q4 2
           clear q4
           obtain ⟨adb3, eb3, sb3⟩ := Kd.at_string (Kd.C_below HR1.out HBV.out) (k : Int) (by omega) (by omega)
           obtain rfl := Option.some.inj eb3
           clear eb3
           rw [Int.toNat_natCast] at sb3
           refine hK.out _ _ ⟨e4, sb3⟩ (fun hHeld => ?_)
           clear hK K
           refine norm_ (a' := ?_) ?_ ?_
           rotate_left
           ·show Act.put _ (some 118) _ = _
            simp only [Act.put, sA_, sB_, sC_, i64_w, i32_w]
            rfl
           refine pure_ (i := 11) (N := some 119) (v := ?_) (a' := ?_) #[true, true, true, true, true, true, true, true, true, true, true, true, false, false] rfl rfl (by kernel_rfl) (fun _ _ _ h => h) (Or.inl ⟨by rfl, ?_⟩) ?_ ?_
           rotate_left
           ·intro w'
            go_simp
            with_reducible rfl
           rotate_left
           ·simp only [Act.put, sA_, sB_, sC_, i64_w, i32_w]
            rfl
           refine pure_ (i := 12) (N := some 120) (v := ?_) (a' := ?_) #[true, true, true, true, true, true, true, true, true, true, true, true, true, false] rfl rfl (by kernel_rfl) (fun _ _ _ h => h) (Or.inl ⟨by rfl, ?_⟩) ?_ ?_
           rotate_left
           ·intro w'
            go_simp
            with_reducible rfl
           rotate_left
           ·simp only [Act.put, sA_, sB_, sC_, i64_w, i32_w]
            rfl
           refine last_ (i := 13) (N := none) #[true, true, true, true, true, true, true, true, true, true, true, true, true, true] rfl rfl (by kernel_rfl) (by decide) (fun K hK => ?_)
           refine skip_ (w1 := ?_) (by rfl) rfl ?_ ?_
           rotate_left
           ·go_simp
            rfl
           refine hK.out _ _ ?_
           clear hK K
           refine done_ (by kernel_rfl) ?_
           have HFIN := Lib.hid (last_add (W1 := w3) HN.out HLT.out HGV.out HR.out HRV.out HH.out (blk_lt HZG.out))
           have HT3 := Lib.hid (rows_grown 9 HTD.out HGV.out (fun k hk => by
            obtain ⟨inner, ho⟩ := Kd.R_own HR.out
            exact own_typed ho k hk) (by decide))
           go_wp2_with fail
           go_roundg k1
           case measure => have := HK1.out; omega
           case rel => exact ⟨stepAdd out (rdOf ByteArray.empty l1 (k : Int)), true, i, k + 1, rfl, rfl, by first | go_num | (rw [HVK.out]; rfl) | (simp only [HVK.out]; rfl), by omega, by omega, Lib.hid HD.out, Lib.hid (by have := HK1.out; omega), Lib.hid (by have h := HFIN.out; rw [List.length_append, List.length_singleton] at h; exact h), Lib.hid (Kd.S_set HT3.out (blk_grown HZG.out HGV.out HNE.out) (by decide) _ _), Lib.hid (below_set HBV.out (Kd.S_base HSD.out g rfl))⟩
       ·obtain rfl : k = l1.length := by omega
        have k0 := decide_eq_false (show ¬ (l1.length : Int) < (l1.length : Int) from by omega)
        have k3 : ((l1.length : Int) == (l1.length : Int)) = true := beq_self_eq_true _
        rw [if_pos (Or.inl hi2), if_neg (fun h => Nat.lt_irrefl _ h.2.1)] at hd
        cases gap
        ·skip
         have HC := Lib.hid hd
         clear hd
         obtain ⟨⟨hn1, hbn, hf2⟩, hd⟩ := dif_gap HC.out
         clear HC
         simp only [gapE, Bool.false_eq_true, if_false] at hn1 hf2 hd
         obtain ⟨out1, hout1⟩ : ∃ out1, out ++ [(⟨(i : Int), 0, []⟩ : S52)] = out1 := ⟨_, rfl⟩
         rw [hout1] at hn1 hf2 hd
         have HN := Lib.hid hn1
         have HBND := Lib.hid hbn
         have HF2 := Lib.hid hf2
         have HD := Lib.hid hd
         clear hf2 hd hbn
         obtain ⟨jn, hjn⟩ : ∃ jn : Int, wrap64 ((out1.length : Int) - 1) = jn := ⟨_, rfl⟩
         have hjv : jn = (out1.length : Int) - 1 := by rw [← hjn]; exact w64 _ (by have h1 := HBND.out; have h2 : out1.length = out.length + 1 := by { rw [← hout1]; simp }; omega)
         have hjw : IntKind.i64.wrap ((out1.length : Int) - 1) = jn := (i64_w _).trans hjn
         have n0 := eq_true (show (0 : Int) ≤ jn from by omega)
         have n1 := eq_true (show jn < (out1.length : Int) from by omega)
         have n2 : jn.toNat = out1.length - 1 := by omega
         clear hjv
         clear hn1
         go_wp2_with fail
         go_quiet (fail)
         have HS1 := Lib.hid (Kd.S_drewN HS.out nq)
         have HT1 := Lib.hid (Kd.S_drewN HT.out nq)
         have HB1 := Lib.hid (pw_below_drewN HB.out nq)
         generalize wr.drewN nq = wq at HS1 HT1 HB1 ⊢
         clear HS HT HB
         (try clear ha)
         (try clear hbb)
         go_wp2_with (first
          | ((with_reducible refine gate_builtin (b := .append) (xs := #[.tmp 60, .tmp 63]) rfl ?_); at_builtin; refine Kd.S_append k52 (w0 := w) w.heap.size rfl (.tmp 60) (.tmp 63) 29 52 (.agg #[(.int .i64 0), (.int .i64 0), (.slice none 0 0)]) 40 rfl Tryd.underlying29 info52 rfl (by decide) (by omega) u7 out ⟨(i : Int), 0, []⟩ [.int .i64 (i : Int), .int .i64 0, .slice none 0 0] (fun _ => True) (fun _ => False) rfl rfl (k52_mkM _ _ _ _ (Kd.R_nil _ _ _ _ _)) (fun _ hk => hk.elim) (fun _ _ => trivial) (Kd.S_mono HS1.out (fun _ _ => ⟨trivial, fun h => h⟩)) HB1.out HB1.out.size (by have := HBND.out; omega) ?_; intro v79 w79 ho hb hg hat; rw [hout1] at ho; have HTW := Lib.hid (rows_grown 52 HT1.out hg (se_typed HS1.out) (by decide)); have HBW := Lib.hid hb; have HSW0 := ho; obtain ⟨g, cap, rfl, -, -, -, -⟩ := Kd.S_form ho HN.out; have HSW := Lib.hid HSW0; clear ho HSW0 hb hg hat))
         have hd := HD.out
         rw [if_pos ⟨hi2, .inl (by first | trivial | rfl)⟩] at hd
         clear HD
         have HD := Lib.hid hd
         clear hd
         go_quiet (fail)
         have HSZ := Lib.hid (Kd.S_drewN HSW.out nq)
         have HTZ := Lib.hid (Kd.S_drewN HTW.out nq)
         have HBZ := Lib.hid (pw_below_drewN HBW.out nq)
         generalize w79.drewN nq = wz at HSZ HTZ HBZ ⊢
         clear HSW HTW HBW
         obtain ⟨oki, v2, hR, hlt, hH⟩ := last_get HSZ.out HN.out
         obtain ⟨z0, z1, z2, zf⟩ := last_cells hH HN.out
         have z1f := zf 1
         have HR := Lib.hid hR
         have HH := Lib.hid hH
         clear hR hlt hH zf z0 z2
         obtain ⟨cz, hz⟩ := se_typed HSZ.out g rfl
         have HZG := Lib.hid hz
         clear hz
         go_wp2_with fail
         go_roundg k1
         case measure => have := HK1.out; omega
         case rel => exact ⟨stepDel out1, true, i + 1, l1.length, rfl, by first | go_num | (rw [HVI.out]; rfl) | (simp only [HVI.out]; rfl), rfl, by omega, by omega, Lib.hid HD.out, Lib.hid (by have := HK1.out; omega), Lib.hid (last_bump HN.out HR.out HH.out _), Lib.hid (Kd.S_set HTZ.out HZG.out (by decide) _ _), Lib.hid (below_set HBZ.out (Kd.S_base HSZ.out g rfl))⟩
        ·skip
         have HC := Lib.hid hd
         clear hd
         obtain ⟨⟨hn1, hbn, hf2⟩, hd⟩ := dif_gap HC.out
         clear HC
         simp only [gapE, if_true] at hn1 hf2 hd
         obtain ⟨g, cap, rfl, -, -, -, -⟩ := Kd.S_form HS.out hn1
         have HN := Lib.hid hn1
         have HF2 := Lib.hid hf2
         have HD := Lib.hid hd
         clear hf2 hd
         obtain ⟨out1, hout1⟩ : ∃ out1, out = out1 := ⟨_, rfl⟩
         subst hout1
         obtain ⟨jn, hjn⟩ : ∃ jn : Int, wrap64 ((out.length : Int) - 1) = jn := ⟨_, rfl⟩
         have hjv : jn = (out.length : Int) - 1 := by rw [← hjn]; exact w64 _ (by omega)
         have hjw : IntKind.i64.wrap ((out.length : Int) - 1) = jn := (i64_w _).trans hjn
         have n0 := eq_true (show (0 : Int) ≤ jn from by omega)
         have n1 := eq_true (show jn < (out.length : Int) from by omega)
         have n2 : jn.toNat = out.length - 1 := by omega
         clear hjv
         clear hn1
         go_wp2_with fail
         go_quiet (fail)
         have HS1 := Lib.hid (Kd.S_drewN HS.out nq)
         have HT1 := Lib.hid (Kd.S_drewN HT.out nq)
         have HB1 := Lib.hid (pw_below_drewN HB.out nq)
         generalize wr.drewN nq = wq at HS1 HT1 HB1 ⊢
         clear HS HT HB
         (try clear ha)
         (try clear hbb)
         have HSW := HS1
         have HTW := HT1
         have HBW := HB1
         clear HS1 HT1 HB1
         go_wp2_with fail
         have hd := HD.out
         rw [if_pos ⟨hi2, .inl (by first | trivial | rfl)⟩] at hd
         clear HD
         have HD := Lib.hid hd
         clear hd
         go_quiet (fail)
         have HSZ := Lib.hid (Kd.S_drewN HSW.out nq)
         have HTZ := Lib.hid (Kd.S_drewN HTW.out nq)
         have HBZ := Lib.hid (pw_below_drewN HBW.out nq)
         generalize wq.drewN nq = wz at HSZ HTZ HBZ ⊢
         clear HSW HTW HBW
         obtain ⟨oki, v2, hR, hlt, hH⟩ := last_get HSZ.out HN.out
         obtain ⟨z0, z1, z2, zf⟩ := last_cells hH HN.out
         have z1f := zf 1
         have HR := Lib.hid hR
         have HH := Lib.hid hH
         clear hR hlt hH zf z0 z2
         obtain ⟨cz, hz⟩ := se_typed HSZ.out g rfl
         have HZG := Lib.hid hz
         clear hz
         go_wp2_with fail
         go_roundg k1
         case measure => have := HK1.out; omega
         case rel => exact ⟨stepDel out, true, i + 1, l1.length, rfl, by first | go_num | (rw [HVI.out]; rfl) | (simp only [HVI.out]; rfl), rfl, by omega, by omega, Lib.hid HD.out, Lib.hid (by have := HK1.out; omega), Lib.hid (last_bump HN.out HR.out HH.out _), Lib.hid (Kd.S_set HTZ.out HZG.out (by decide) _ _), Lib.hid (below_set HBZ.out (Kd.S_base HSZ.out g rfl))⟩
      ·obtain rfl : i = l0.length := by omega
       have i0 := decide_eq_false (show ¬ (l0.length : Int) < (l0.length : Int) from by omega)
       by_cases hk2 : k < l1.length
       ·have k0 := decide_eq_true (show (k : Int) < (l1.length : Int) from by omega)
        have k01 := eq_true (show (k : Int) < (l1.length : Int) from by omega)
        have k02 := eq_true (show (0 : Int) ≤ (k : Int) from by omega)
        have k3 : ((k : Int) == (l1.length : Int)) = false := beq_eq_false_iff_ne.mpr (by omega)
        obtain ⟨adb, eb, hbb⟩ := Kd.at_string (Kd.C_below HR1.out HB.out) (k : Int) (by omega) (by omega)
        subst eb
        rw [if_pos (Or.inr hk2), if_neg (fun h => Nat.lt_irrefl _ h.1)] at hd
        cases gap
        ·skip
         have HC := Lib.hid hd
         clear hd
         obtain ⟨⟨hn1, hbn, hf2⟩, hd⟩ := dif_gap HC.out
         clear HC
         simp only [gapE, Bool.false_eq_true, if_false] at hn1 hf2 hd
         obtain ⟨out1, hout1⟩ : ∃ out1, out ++ [(⟨(l0.length : Int), 0, []⟩ : S52)] = out1 := ⟨_, rfl⟩
         rw [hout1] at hn1 hf2 hd
         have HN := Lib.hid hn1
         have HBND := Lib.hid hbn
         have HF2 := Lib.hid hf2
         have HD := Lib.hid hd
         clear hf2 hd hbn
         obtain ⟨jn, hjn⟩ : ∃ jn : Int, wrap64 ((out1.length : Int) - 1) = jn := ⟨_, rfl⟩
         have hjv : jn = (out1.length : Int) - 1 := by rw [← hjn]; exact w64 _ (by have h1 := HBND.out; have h2 : out1.length = out.length + 1 := by { rw [← hout1]; simp }; omega)
         have hjw : IntKind.i64.wrap ((out1.length : Int) - 1) = jn := (i64_w _).trans hjn
         have n0 := eq_true (show (0 : Int) ≤ jn from by omega)
         have n1 := eq_true (show jn < (out1.length : Int) from by omega)
         have n2 : jn.toNat = out1.length - 1 := by omega
         clear hjv
         clear hn1
         go_wp2_with fail
         go_quiet (fail)
         have HS1 := Lib.hid (Kd.S_drewN HS.out nq)
         have HT1 := Lib.hid (Kd.S_drewN HT.out nq)
         have HB1 := Lib.hid (pw_below_drewN HB.out nq)
         generalize wr.drewN nq = wq at HS1 HT1 HB1 ⊢
         clear HS HT HB
         (try clear ha)
         (try clear hbb)
         go_wp2_with (first
          | ((with_reducible refine gate_builtin (b := .append) (xs := #[.tmp 60, .tmp 63]) rfl ?_); at_builtin; refine Kd.S_append k52 (w0 := w) w.heap.size rfl (.tmp 60) (.tmp 63) 29 52 (.agg #[(.int .i64 0), (.int .i64 0), (.slice none 0 0)]) 40 rfl Tryd.underlying29 info52 rfl (by decide) (by omega) u7 out ⟨(l0.length : Int), 0, []⟩ [.int .i64 (l0.length : Int), .int .i64 0, .slice none 0 0] (fun _ => True) (fun _ => False) rfl rfl (k52_mkM _ _ _ _ (Kd.R_nil _ _ _ _ _)) (fun _ hk => hk.elim) (fun _ _ => trivial) (Kd.S_mono HS1.out (fun _ _ => ⟨trivial, fun h => h⟩)) HB1.out HB1.out.size (by have := HBND.out; omega) ?_; intro v79 w79 ho hb hg hat; rw [hout1] at ho; have HTW := Lib.hid (rows_grown 52 HT1.out hg (se_typed HS1.out) (by decide)); have HBW := Lib.hid hb; have HSW0 := ho; obtain ⟨g, cap, rfl, -, -, -, -⟩ := Kd.S_form ho HN.out; have HSW := Lib.hid HSW0; clear ho HSW0 hb hg hat))
         have hd := HD.out
         rw [if_neg (fun h => Nat.lt_irrefl _ h.1)] at hd
         clear HD
         have HD := Lib.hid hd
         clear hd
         go_quiet (fail)
         have HSZ := Lib.hid (Kd.S_drewN HSW.out nq)
         have HTZ := Lib.hid (Kd.S_drewN HTW.out nq)
         have HBZ := Lib.hid (pw_below_drewN HBW.out nq)
         generalize w79.drewN nq = wz at HSZ HTZ HBZ ⊢
         clear HSW HTW HBW
         have HSD := Lib.hid (Kd.S_drew HSZ.out)
         have HTD := Lib.hid (Kd.S_drew HTZ.out)
         have HBD := Lib.hid (below_drew HBZ.out)
         obtain ⟨oki, v2, hR, hlt, hH⟩ := last_get HSD.out HN.out
         obtain ⟨A2, c2, rfl, -, -⟩ := Kd.R_reads hR
         have HH := Lib.hid hH
         obtain ⟨z0, z1, z2, zf⟩ := last_cells hH HN.out
         have HR := Lib.hid hR
         have HLT := Lib.hid hlt
         clear hR hlt hH zf z0 z1
         obtain ⟨adb', eb', sb⟩ := Kd.at_string (Kd.C_below HR1.out HBD.out) (k : Int) (by omega) (by omega)
         obtain rfl := Option.some.inj eb'
         rw [Int.toNat_natCast] at sb
         clear eb'
         obtain ⟨cz, hz⟩ := se_typed HSD.out g rfl
         have HZG := Lib.hid hz
         clear hz
         go_wp2_with fail
         refine start_ (n := 14) (S := fun w' => w'.cell? ⟨g, (out1.length - 1) * 3 + 2, none⟩ = some (.slice A2 (rd_T52 out1 ((out1.length : Int) - 1)).f2.length c2) ∧ w'.cell? (adb.add k) = some (.string (rdOf ByteArray.empty l1 (k : Int)))) (ds := [13]) #[false, false, false, false, false, false, false, false, false, false, false, false, false, false] (by kernel_rfl) rfl rfl ⟨z2, sb⟩ (fun hHeld => ?_)
         generalize wz.drew = wd at HSD HTD HBD HH HR HLT HZG z2 sb hHeld ⊢
         refine pure_ (i := 0) (N := some 108) (v := ?_) (a' := ?_) #[true, false, false, false, false, false, false, false, false, false, false, false, false, false] rfl rfl (by kernel_rfl) (fun _ _ _ h => h) (Or.inl ⟨by rfl, ?_⟩) ?_ ?_
         rotate_left
         ·intro w'
          go_simp
          with_reducible rfl
         rotate_left
         ·simp only [Act.put, sA_, sB_, sC_, i64_w, i32_w]
          rfl
         refine pure_ (i := 1) (N := some 109) (v := ?_) (a' := ?_) #[true, true, false, false, false, false, false, false, false, false, false, false, false, false] rfl rfl (by kernel_rfl) (fun _ _ _ h => h) (Or.inl ⟨by rfl, ?_⟩) ?_ ?_
         rotate_left
         ·intro w'
          go_simp
          with_reducible rfl
         rotate_left
         ·simp only [Act.put, sA_, sB_, sC_, i64_w, i32_w]
          rfl
         refine pure_ (i := 2) (N := some 110) (v := ?_) (a' := ?_) #[true, true, true, false, false, false, false, false, false, false, false, false, false, false] rfl rfl (by kernel_rfl) (fun _ _ _ h => h) (Or.inl ⟨by rfl, ?_⟩) ?_ ?_
         rotate_left
         ·intro w'
          go_simp
          with_reducible rfl
         rotate_left
         ·simp only [Act.put, sA_, sB_, sC_, i64_w, i32_w]
          rfl
         refine pure_ (i := 3) (N := some 111) (v := ?_) (a' := ?_) #[true, true, true, true, false, false, false, false, false, false, false, false, false, false] rfl rfl (by kernel_rfl) (fun _ _ _ h => h) (Or.inl ⟨by rfl, ?_⟩) ?_ ?_
         rotate_left
         ·intro w'
          go_simp
          with_reducible rfl
         rotate_left
         ·simp only [Act.put, sA_, sB_, sC_, i64_w, i32_w]
          rfl
         refine pure_ (i := 5) (N := some 113) (v := ?_) (a' := ?_) #[true, true, true, true, false, true, false, false, false, false, false, false, false, false] rfl rfl (by kernel_rfl) (fun _ _ _ h => h) (Or.inl ⟨by rfl, ?_⟩) ?_ ?_
         rotate_left
         ·intro w'
          go_simp
          with_reducible rfl
         rotate_left
         ·simp only [Act.put, sA_, sB_, sC_, i64_w, i32_w]
          rfl
         refine pure_ (i := 6) (N := some 114) (v := ?_) (a' := ?_) #[true, true, true, true, false, true, true, false, false, false, false, false, false, false] rfl rfl (by kernel_rfl) (fun _ _ _ h => h) (Or.inl ⟨by rfl, ?_⟩) ?_ ?_
         rotate_left
         ·intro w'
          go_simp
          with_reducible rfl
         rotate_left
         ·simp only [Act.put, sA_, sB_, sC_, i64_w, i32_w]
          rfl
         refine pure_ (i := 7) (N := some 115) (v := ?_) (a' := ?_) #[true, true, true, true, false, true, true, true, false, false, false, false, false, false] rfl rfl (by kernel_rfl) (fun _ _ _ h => h) (Or.inl ⟨by rfl, ?_⟩) ?_ ?_
         rotate_left
         ·intro w'
          go_simp
          with_reducible rfl
         rotate_left
         ·simp only [Act.put, sA_, sB_, sC_, i64_w, i32_w]
          rfl
         refine take_ (i := 4) (N := some 112) (v := ?_) (a' := ?_) #[true, true, true, true, true, true, true, true, false, false, false, false, false, false] rfl rfl (by kernel_rfl) (fun _ _ _ h => h) (Or.inl ⟨by rfl, ?_⟩) hHeld ?_ ?_
         rotate_left
         ·rintro w' ⟨s0, s1⟩
          go_simp
          with_reducible rfl
         rotate_left
         ·simp only [Act.put, sA_, sB_, sC_, i64_w, i32_w]
          rfl
         refine take_ (i := 8) (N := some 116) (v := ?_) (a' := ?_) #[true, true, true, true, true, true, true, true, true, false, false, false, false, false] rfl rfl (by kernel_rfl) (fun _ _ _ h => h) (Or.inl ⟨by rfl, ?_⟩) hHeld ?_ ?_
         rotate_left
         ·rintro w' ⟨s0, s1⟩
          go_simp
          with_reducible rfl
         rotate_left
         ·simp only [Act.put, sA_, sB_, sC_, i64_w, i32_w]
          rfl
         refine one_ (i := 9) (N := some 117) #[true, true, true, true, true, true, true, true, true, true, false, false, false, false] rfl rfl (by kernel_rfl) (by decide) (fun K hK => ?_)
         refine value_ (w1 := ?_) (v := ?_) (by rfl) rfl ?_ ?_
         rotate_left 2
         ·go_simp
          constructor
          ·rfl
          ·rfl
         refine hK.out _ _ ⟨pw_cell_below (below_alloc (Below.refl wd.heap.size wd) _) z2, pw_cell_below (below_alloc (Below.refl wd.heap.size wd) _) sb⟩ (fun hHeld => ?_)
         clear hK K
         refine norm_ (a' := ?_) ?_ ?_
         rotate_left
         ·show Act.put _ (some 117) _ = _
          simp only [Act.put, sA_, sB_, sC_, i64_w, i32_w]
          rfl
         refine one_ (i := 10) (N := some 118) #[true, true, true, true, true, true, true, true, true, true, true, false, false, false] rfl rfl (by kernel_rfl) (by decide) (fun K hK => ?_)
         refine Kd.R_append_step Kd.string (w0 := w) w.heap.size (by rfl) (.tmp 112) (.tmp 117) 28 9 (.string ⟨#[]⟩) 16 (by rfl) Tryd.underlying28 info9 rfl (by decide) (by omega) (.slice A2 (rd_T52 out1 ((out1.length : Int) - 1)).f2.length c2) (rd_T52 out1 ((out1.length : Int) - 1)).f2 (rdOf ByteArray.empty l1 (k : Int)) [.string (rdOf ByteArray.empty l1 (k : Int))] (fun k => oki k ∨ wd.heap.size ≤ k) (fun _ => False) (by rfl) (by rfl) rfl (fun _ hk => hk.elim) (fun k hk => .inr hk) (Kd.R_mono HR.out (fun k hk => .inl hk)) HBD.out HBD.out.size (by have h1 := HF2.out; unfold lastE at h1; omega) ?_
         intro v3 w3 ho hb hg hat
         have HRV0 := ho
         obtain ⟨A3, c3, rfl, -, -⟩ := Kd.R_reads ho
         have HRV := Lib.hid HRV0
         have HGV := Lib.hid hg
         have HBV := Lib.hid hb
         clear ho hb hg hat HRV0
         have HNE : Hid (some g ≠ (Value.slice A2 (rd_T52 out1 ((out1.length : Int) - 1)).f2.length c2).ownBlock) := Lib.hid (own_ne9 HR.out HZG.out)
         obtain ⟨-, -, e4, q4⟩ := last_cells (Kd.H_grown HH.out HGV.out (fun k hk => HR.out.1 k hk)) HN.out
         have q5 := q4 2
         clear q4
         obtain ⟨adb3, eb3, sb3⟩ := Kd.at_string (Kd.C_below HR1.out HBV.out) (k : Int) (by omega) (by omega)
         obtain rfl := Option.some.inj eb3
         clear eb3
         rw [Int.toNat_natCast] at sb3
         refine hK.out _ _ ⟨e4, sb3⟩ (fun hHeld => ?_)
         clear hK K
         refine norm_ (a' := ?_) ?_ ?_
         rotate_left
         ·show Act.put _ (some 118) _ = _
          simp only [Act.put, sA_, sB_, sC_, i64_w, i32_w]
          rfl
         refine pure_ (i := 11) (N := some 119) (v := ?_) (a' := ?_) #[true, true, true, true, true, true, true, true, true, true, true, true, false, false] rfl rfl (by kernel_rfl) (fun _ _ _ h => h) (Or.inl ⟨by rfl, ?_⟩) ?_ ?_
         rotate_left
         ·intro w'
          go_simp
          with_reducible rfl
         rotate_left
         ·simp only [Act.put, sA_, sB_, sC_, i64_w, i32_w]
          rfl
         refine pure_ (i := 12) (N := some 120) (v := ?_) (a' := ?_) #[true, true, true, true, true, true, true, true, true, true, true, true, true, false] rfl rfl (by kernel_rfl) (fun _ _ _ h => h) (Or.inl ⟨by rfl, ?_⟩) ?_ ?_
         rotate_left
         ·intro w'
          go_simp
          with_reducible rfl
         rotate_left
         ·simp only [Act.put, sA_, sB_, sC_, i64_w, i32_w]
          rfl
         refine last_ (i := 13) (N := none) #[true, true, true, true, true, true, true, true, true, true, true, true, true, true] rfl rfl (by kernel_rfl) (by decide) (fun K hK => ?_)
         refine skip_ (w1 := ?_) (by rfl) rfl ?_ ?_
         rotate_left
         ·go_simp
          rfl
         refine hK.out _ _ ?_
         clear hK K
         refine done_ (by kernel_rfl) ?_
         have HFIN := Lib.hid (last_add (W1 := w3) HN.out HLT.out HGV.out HR.out HRV.out HH.out (blk_lt HZG.out))
         have HT3 := Lib.hid (rows_grown 9 HTD.out HGV.out (fun k hk => by
          obtain ⟨inner, ho⟩ := Kd.R_own HR.out
          exact own_typed ho k hk) (by decide))
         go_wp2_with fail
         go_roundg k1
         case measure => have := HK1.out; omega
         case rel => exact ⟨stepAdd out1 (rdOf ByteArray.empty l1 (k : Int)), true, l0.length, k + 1, rfl, rfl, by first | go_num | (rw [HVK.out]; rfl) | (simp only [HVK.out]; rfl), by omega, by omega, Lib.hid HD.out, Lib.hid (by have := HK1.out; omega), Lib.hid (by have h := HFIN.out; rw [List.length_append, List.length_singleton] at h; exact h), Lib.hid (Kd.S_set HT3.out (blk_grown HZG.out HGV.out HNE.out) (by decide) _ _), Lib.hid (below_set HBV.out (Kd.S_base HSD.out g rfl))⟩
        ·skip
         have HC := Lib.hid hd
         clear hd
         obtain ⟨⟨hn1, hbn, hf2⟩, hd⟩ := dif_gap HC.out
         clear HC
         simp only [gapE, if_true] at hn1 hf2 hd
         obtain ⟨g, cap, rfl, -, -, -, -⟩ := Kd.S_form HS.out hn1
         have HN := Lib.hid hn1
         have HF2 := Lib.hid hf2
         have HD := Lib.hid hd
         clear hf2 hd
         obtain ⟨out1, hout1⟩ : ∃ out1, out = out1 := ⟨_, rfl⟩
         subst hout1
         obtain ⟨jn, hjn⟩ : ∃ jn : Int, wrap64 ((out.length : Int) - 1) = jn := ⟨_, rfl⟩
         have hjv : jn = (out.length : Int) - 1 := by rw [← hjn]; exact w64 _ (by omega)
         have hjw : IntKind.i64.wrap ((out.length : Int) - 1) = jn := (i64_w _).trans hjn
         have n0 := eq_true (show (0 : Int) ≤ jn from by omega)
         have n1 := eq_true (show jn < (out.length : Int) from by omega)
         have n2 : jn.toNat = out.length - 1 := by omega
         clear hjv
         clear hn1
         go_wp2_with fail
         go_quiet (fail)
         have HS1 := Lib.hid (Kd.S_drewN HS.out nq)
         have HT1 := Lib.hid (Kd.S_drewN HT.out nq)
         have HB1 := Lib.hid (pw_below_drewN HB.out nq)
         generalize wr.drewN nq = wq at HS1 HT1 HB1 ⊢
         clear HS HT HB
         (try clear ha)
         (try clear hbb)
         have HSW := HS1
         have HTW := HT1
         have HBW := HB1
         clear HS1 HT1 HB1
         go_wp2_with fail
         have hd := HD.out
         rw [if_neg (fun h => Nat.lt_irrefl _ h.1)] at hd
         clear HD
         have HD := Lib.hid hd
         clear hd
         go_quiet (fail)
         have HSZ := Lib.hid (Kd.S_drewN HSW.out nq)
         have HTZ := Lib.hid (Kd.S_drewN HTW.out nq)
         have HBZ := Lib.hid (pw_below_drewN HBW.out nq)
         generalize wq.drewN nq = wz at HSZ HTZ HBZ ⊢
         clear HSW HTW HBW
         have HSD := Lib.hid (Kd.S_drew HSZ.out)
         have HTD := Lib.hid (Kd.S_drew HTZ.out)
         have HBD := Lib.hid (below_drew HBZ.out)
         obtain ⟨oki, v2, hR, hlt, hH⟩ := last_get HSD.out HN.out
         obtain ⟨A2, c2, rfl, -, -⟩ := Kd.R_reads hR
         have HH := Lib.hid hH
         obtain ⟨z0, z1, z2, zf⟩ := last_cells hH HN.out
         have HR := Lib.hid hR
         have HLT := Lib.hid hlt
         clear hR hlt hH zf z0 z1
         obtain ⟨adb', eb', sb⟩ := Kd.at_string (Kd.C_below HR1.out HBD.out) (k : Int) (by omega) (by omega)
         obtain rfl := Option.some.inj eb'
         rw [Int.toNat_natCast] at sb
         clear eb'
         obtain ⟨cz, hz⟩ := se_typed HSD.out g rfl
         have HZG := Lib.hid hz
         clear hz
         go_wp2_with fail
         refine start_ (n := 14) (S := fun w' => w'.cell? ⟨g, (out.length - 1) * 3 + 2, none⟩ = some (.slice A2 (rd_T52 out ((out.length : Int) - 1)).f2.length c2) ∧ w'.cell? (adb.add k) = some (.string (rdOf ByteArray.empty l1 (k : Int)))) (ds := [13]) #[false, false, false, false, false, false, false, false, false, false, false, false, false, false] (by kernel_rfl) rfl rfl ⟨z2, sb⟩ (fun hHeld => ?_)
         generalize wz.drew = wd at HSD HTD HBD HH HR HLT HZG z2 sb hHeld ⊢
         refine pure_ (i := 0) (N := some 108) (v := ?_) (a' := ?_) #[true, false, false, false, false, false, false, false, false, false, false, false, false, false] rfl rfl (by kernel_rfl) (fun _ _ _ h => h) (Or.inl ⟨by rfl, ?_⟩) ?_ ?_
         rotate_left
         ·intro w'
          go_simp
          with_reducible rfl
         rotate_left
         ·simp only [Act.put, sA_, sB_, sC_, i64_w, i32_w]
          rfl
         refine pure_ (i := 1) (N := some 109) (v := ?_) (a' := ?_) #[true, true, false, false, false, false, false, false, false, false, false, false, false, false] rfl rfl (by kernel_rfl) (fun _ _ _ h => h) (Or.inl ⟨by rfl, ?_⟩) ?_ ?_
         rotate_left
         ·intro w'
          go_simp
          with_reducible rfl
         rotate_left
         ·simp only [Act.put, sA_, sB_, sC_, i64_w, i32_w]
          rfl
         refine pure_ (i := 2) (N := some 110) (v := ?_) (a' := ?_) #[true, true, true, false, false, false, false, false, false, false, false, false, false, false] rfl rfl (by kernel_rfl) (fun _ _ _ h => h) (Or.inl ⟨by rfl, ?_⟩) ?_ ?_
         rotate_left
         ·intro w'
          go_simp
          with_reducible rfl
         rotate_left
         ·simp only [Act.put, sA_, sB_, sC_, i64_w, i32_w]
          rfl
         refine pure_ (i := 3) (N := some 111) (v := ?_) (a' := ?_) #[true, true, true, true, false, false, false, false, false, false, false, false, false, false] rfl rfl (by kernel_rfl) (fun _ _ _ h => h) (Or.inl ⟨by rfl, ?_⟩) ?_ ?_
         rotate_left
         ·intro w'
          go_simp
          with_reducible rfl
         rotate_left
         ·simp only [Act.put, sA_, sB_, sC_, i64_w, i32_w]
          rfl
         refine pure_ (i := 5) (N := some 113) (v := ?_) (a' := ?_) #[true, true, true, true, false, true, false, false, false, false, false, false, false, false] rfl rfl (by kernel_rfl) (fun _ _ _ h => h) (Or.inl ⟨by rfl, ?_⟩) ?_ ?_
         rotate_left
         ·intro w'
          go_simp
          with_reducible rfl
         rotate_left
         ·simp only [Act.put, sA_, sB_, sC_, i64_w, i32_w]
          rfl
         refine pure_ (i := 6) (N := some 114) (v := ?_) (a' := ?_) #[true, true, true, true, false, true, true, false, false, false, false, false, false, false] rfl rfl (by kernel_rfl) (fun _ _ _ h => h) (Or.inl ⟨by rfl, ?_⟩) ?_ ?_
         rotate_left
         ·intro w'
          go_simp
          with_reducible rfl
         rotate_left
         ·simp only [Act.put, sA_, sB_, sC_, i64_w, i32_w]
          rfl
         refine pure_ (i := 7) (N := some 115) (v := ?_) (a' := ?_) #[true, true, true, true, false, true, true, true, false, false, false, false, false, false] rfl rfl (by kernel_rfl) (fun _ _ _ h => h) (Or.inl ⟨by rfl, ?_⟩) ?_ ?_
         rotate_left
         ·intro w'
          go_simp
          with_reducible rfl
         rotate_left
         ·simp only [Act.put, sA_, sB_, sC_, i64_w, i32_w]
          rfl
         refine take_ (i := 4) (N := some 112) (v := ?_) (a' := ?_) #[true, true, true, true, true, true, true, true, false, false, false, false, false, false] rfl rfl (by kernel_rfl) (fun _ _ _ h => h) (Or.inl ⟨by rfl, ?_⟩) hHeld ?_ ?_
         rotate_left
         ·rintro w' ⟨s0, s1⟩
          go_simp
          with_reducible rfl
         rotate_left
         ·simp only [Act.put, sA_, sB_, sC_, i64_w, i32_w]
          rfl
         refine take_ (i := 8) (N := some 116) (v := ?_) (a' := ?_) #[true, true, true, true, true, true, true, true, true, false, false, false, false, false] rfl rfl (by kernel_rfl) (fun _ _ _ h => h) (Or.inl ⟨by rfl, ?_⟩) hHeld ?_ ?_
         rotate_left
         ·rintro w' ⟨s0, s1⟩
          go_simp
          with_reducible rfl
         rotate_left
         ·simp only [Act.put, sA_, sB_, sC_, i64_w, i32_w]
          rfl
         refine one_ (i := 9) (N := some 117) #[true, true, true, true, true, true, true, true, true, true, false, false, false, false] rfl rfl (by kernel_rfl) (by decide) (fun K hK => ?_)
         refine value_ (w1 := ?_) (v := ?_) (by rfl) rfl ?_ ?_
         rotate_left 2
         ·go_simp
          constructor
          ·rfl
          ·rfl
         refine hK.out _ _ ⟨pw_cell_below (below_alloc (Below.refl wd.heap.size wd) _) z2, pw_cell_below (below_alloc (Below.refl wd.heap.size wd) _) sb⟩ (fun hHeld => ?_)
         clear hK K
         refine norm_ (a' := ?_) ?_ ?_
         rotate_left
         ·show Act.put _ (some 117) _ = _
          simp only [Act.put, sA_, sB_, sC_, i64_w, i32_w]
          rfl
         refine one_ (i := 10) (N := some 118) #[true, true, true, true, true, true, true, true, true, true, true, false, false, false] rfl rfl (by kernel_rfl) (by decide) (fun K hK => ?_)
         refine Kd.R_append_step Kd.string (w0 := w) w.heap.size (by rfl) (.tmp 112) (.tmp 117) 28 9 (.string ⟨#[]⟩) 16 (by rfl) Tryd.underlying28 info9 rfl (by decide) (by omega) (.slice A2 (rd_T52 out ((out.length : Int) - 1)).f2.length c2) (rd_T52 out ((out.length : Int) - 1)).f2 (rdOf ByteArray.empty l1 (k : Int)) [.string (rdOf ByteArray.empty l1 (k : Int))] (fun k => oki k ∨ wd.heap.size ≤ k) (fun _ => False) (by rfl) (by rfl) rfl (fun _ hk => hk.elim) (fun k hk => .inr hk) (Kd.R_mono HR.out (fun k hk => .inl hk)) HBD.out HBD.out.size (by have h1 := HF2.out; unfold lastE at h1; omega) ?_
         intro v3 w3 ho hb hg hat
         have HRV0 := ho
         obtain ⟨A3, c3, rfl, -, -⟩ := Kd.R_reads ho
         have HRV := Lib.hid HRV0
         have HGV := Lib.hid hg
         have HBV := Lib.hid hb
         clear ho hb hg hat HRV0
         have HNE : Hid (some g ≠ (Value.slice A2 (rd_T52 out ((out.length : Int) - 1)).f2.length c2).ownBlock) := Lib.hid (own_ne9 HR.out HZG.out)
         obtain ⟨-, -, e4, q4⟩ := last_cells (Kd.H_grown HH.out HGV.out (fun k hk => HR.out.1 k hk)) HN.out
         have q5 := q4 2
         clear q4
         obtain ⟨adb3, eb3, sb3⟩ := Kd.at_string (Kd.C_below HR1.out HBV.out) (k : Int) (by omega) (by omega)
         obtain rfl := Option.some.inj eb3
         clear eb3
         rw [Int.toNat_natCast] at sb3
         refine hK.out _ _ ⟨e4, sb3⟩ (fun hHeld => ?_)
         clear hK K
         refine norm_ (a' := ?_) ?_ ?_
         rotate_left
         ·show Act.put _ (some 118) _ = _
          simp only [Act.put, sA_, sB_, sC_, i64_w, i32_w]
          rfl
         refine pure_ (i := 11) (N := some 119) (v := ?_) (a' := ?_) #[true, true, true, true, true, true, true, true, true, true, true, true, false, false] rfl rfl (by kernel_rfl) (fun _ _ _ h => h) (Or.inl ⟨by rfl, ?_⟩) ?_ ?_
         rotate_left
         ·intro w'
          go_simp
          with_reducible rfl
         rotate_left
         ·simp only [Act.put, sA_, sB_, sC_, i64_w, i32_w]
          rfl
         refine pure_ (i := 12) (N := some 120) (v := ?_) (a' := ?_) #[true, true, true, true, true, true, true, true, true, true, true, true, true, false] rfl rfl (by kernel_rfl) (fun _ _ _ h => h) (Or.inl ⟨by rfl, ?_⟩) ?_ ?_
         rotate_left
         ·intro w'
          go_simp
          with_reducible rfl
         rotate_left
         ·simp only [Act.put, sA_, sB_, sC_, i64_w, i32_w]
          rfl
         refine last_ (i := 13) (N := none) #[true, true, true, true, true, true, true, true, true, true, true, true, true, true] rfl rfl (by kernel_rfl) (by decide) (fun K hK => ?_)
         refine skip_ (w1 := ?_) (by rfl) rfl ?_ ?_
         rotate_left
         ·go_simp
          rfl
         refine hK.out _ _ ?_
         clear hK K
         refine done_ (by kernel_rfl) ?_
         have HFIN := Lib.hid (last_add (W1 := w3) HN.out HLT.out HGV.out HR.out HRV.out HH.out (blk_lt HZG.out))
         have HT3 := Lib.hid (rows_grown 9 HTD.out HGV.out (fun k hk => by
          obtain ⟨inner, ho⟩ := Kd.R_own HR.out
          exact own_typed ho k hk) (by decide))
         go_wp2_with fail
         go_roundg k1
         case measure => have := HK1.out; omega
         case rel => exact ⟨stepAdd out (rdOf ByteArray.empty l1 (k : Int)), true, l0.length, k + 1, rfl, rfl, by first | go_num | (rw [HVK.out]; rfl) | (simp only [HVK.out]; rfl), by omega, by omega, Lib.hid HD.out, Lib.hid (by have := HK1.out; omega), Lib.hid (by have h := HFIN.out; rw [List.length_append, List.length_singleton] at h; exact h), Lib.hid (Kd.S_set HT3.out (blk_grown HZG.out HGV.out HNE.out) (by decide) _ _), Lib.hid (below_set HBV.out (Kd.S_base HSD.out g rfl))⟩
       ·obtain rfl : k = l1.length := by omega
        have k0 := decide_eq_false (show ¬ (l1.length : Int) < (l1.length : Int) from by omega)
        rw [if_neg (fun h => h.elim (Nat.lt_irrefl _) (Nat.lt_irrefl _))] at hd
        obtain rfl := Option.some.inj hd
        go_wp2_with fail
        go_ret2
        exact ⟨_, rfl, HS.out, HB.out⟩
   ·rw [if_neg hsh] at h
    exact absurd h (by simp)
  ·rw [if_neg hz1] at h
   have b0 : (e1 == 0) = false := beq_eq_false_iff_ne.mpr hz1
   have b1 : (e1 != 0) = true := bne_iff_ne.mpr hz1
   clear hz1
   simp only [Option.some.injEq, Prod.mk.injEq] at h
   obtain ⟨rfl, rfl⟩ := h
   go_wp2_with fail
   go_ret2
   exact ⟨_, rfl, Kd.S_nil _ _ _ _ _, HB2.out⟩
 ·rw [if_neg hz0] at h
  have a0 : (e0 == 0) = false := beq_eq_false_iff_ne.mpr hz0
  have a1 : (e0 != 0) = true := bne_iff_ne.mpr hz0
  clear hz0
  simp only [Option.some.injEq, Prod.mk.injEq] at h
  obtain ⟨rfl, rfl⟩ := h
  go_wp2_with fail
  refine (frame_lineError.calls K A0 c0 l0 e0 w HR0.out hc0 E0.out).mono ?_
  rintro e w1 ⟨rfl, hd1⟩
  have HB1 := Lib.hid hd1.below
  clear hd1
  go_wp2_with fail
  go_ret2
  exact ⟨_, rfl, Kd.S_nil _ _ _ _ _, HB1.out⟩
end Go.Proofs.YtfpopmojlmpopaaDoor.H

end
