/-
  Part 5 of the proof: words about memory and rows, functions of the program as Lean functions with the contracts that its code comes to just their answers, and plain lemmas; no conditions of its own.
-/
import Derived.Test.YtfpopmojlmpopaaDoorBDf1
import Derived.Test.YtfpopmojlmpopaaDoorBDf4
section
namespace Go.Proofs.YtfpopmojlmpopaaDoor.G
open Go.RowKit Go.Proofs.YtfpopmojlmpopaaDoorW.PrintWords Go.Proofs.YtfpopmojlmpopaaDoorW.PrintLast Go.Proofs.YtfpopmojlmpopaaDoorW.PrintMore
attribute [local go_sem] max2_int min2_int max_two min_two max_three min_three max_four min_four
set_option linter.unusedVariables false
set_option linter.unusedSimpArgs false
mutual
def salchowref49_Table.l0 : Nat → List ByteArray → List ByteArray → List (List Int) → Int → Option ((List (List Int)))
 | 0, _, _, _, _ => none
 | k + 1, x0, x1, x5, x6 => if x6 ≥ 0 then (if 0 ≤ (wrap64 ((x1.length : Int) + 1)) then (if (wrap64 ((x1.length : Int) + 1) : Int).toNat ≤ 35184372088832 then (if 0 ≤ x6 then (if x6 < (x5.length : Int) then (salchowref49_Table.l1 k x0 x1 (x5.set (x6 : Int).toNat (List.replicate (wrap64 ((x1.length : Int) + 1) : Int).toNat 0)) x6 (x1.length : Int)) else (none)) else (none)) else (none)) else (none)) else (some x5)
def salchowref49_Table.l1 : Nat → List ByteArray → List ByteArray → List (List Int) → Int → Int → Option ((List (List Int)))
 | 0, _, _, _, _, _ => none
 | k + 1, x0, x1, x5, x6, x7 => if x7 ≥ 0 then (if x6 = (x0.length : Int) then (salchowref49_Table.j2 k x0 x1 x5 x6 x7 true) else (salchowref49_Table.j2 k x0 x1 x5 x6 x7 (x7 == (x1.length : Int)))) else (salchowref49_Table.l0 k x0 x1 x5 (wrap64 (x6 - 1)))
def salchowref49_Table.j2 : Nat → List ByteArray → List ByteArray → List (List Int) → Int → Int → Bool → Option ((List (List Int)))
 | 0, _, _, _, _, _, _ => none
 | k + 1, x0, x1, x5, x6, x7, x55 => if x55 = true then (if 0 ≤ x6 then (if x6 < (x5.length : Int) then (if 0 ≤ x7 then (if x7 < ((rd_L7 x5 x6).length : Int) then (salchowref49_Table.l1 k x0 x1 (x5.set (x6 : Int).toNat ((rd_L7 x5 x6).set (x7 : Int).toNat (wrap64 ((wrap64 ((wrap64 ((x0.length : Int) - x6)) + (x1.length : Int))) - x7)))) x6 (wrap64 (x7 - 1))) else (none)) else (none)) else (none)) else (none)) else (if 0 ≤ x6 then (if x6 < (x0.length : Int) then (if 0 ≤ x7 then (if x7 < (x1.length : Int) then (if (rdOf ByteArray.empty x0 x6).toList = (rdOf ByteArray.empty x1 x7).toList then (if x6 < (x5.length : Int) then (if 0 ≤ (wrap64 (x6 + 1)) then (if (wrap64 (x6 + 1)) < (x5.length : Int) then (if 0 ≤ (wrap64 (x7 + 1)) then (if (wrap64 (x7 + 1)) < ((rd_L7 x5 (wrap64 (x6 + 1))).length : Int) then (if x7 < ((rd_L7 x5 x6).length : Int) then (salchowref49_Table.l1 k x0 x1 (x5.set (x6 : Int).toNat ((rd_L7 x5 x6).set (x7 : Int).toNat (rd (rd_L7 x5 (wrap64 (x6 + 1))) (wrap64 (x7 + 1))))) x6 (wrap64 (x7 - 1))) else (none)) else (none)) else (none)) else (none)) else (none)) else (none)) else (if x6 < (x5.length : Int) then (if 0 ≤ (wrap64 (x6 + 1)) then (if (wrap64 (x6 + 1)) < (x5.length : Int) then (if x7 < ((rd_L7 x5 (wrap64 (x6 + 1))).length : Int) then (if 0 ≤ (wrap64 (x7 + 1)) then (if (wrap64 (x7 + 1)) < ((rd_L7 x5 x6).length : Int) then (if x7 < ((rd_L7 x5 x6).length : Int) then (salchowref49_Table.l1 k x0 x1 (x5.set (x6 : Int).toNat ((rd_L7 x5 x6).set (x7 : Int).toNat (wrap64 (1 + (mn (rd (rd_L7 x5 (wrap64 (x6 + 1))) x7) (rd (rd_L7 x5 x6) (wrap64 (x7 + 1)))))))) x6 (wrap64 (x7 - 1))) else (none)) else (none)) else (none)) else (none)) else (none)) else (none)) else (none))) else (none)) else (none)) else (none)) else (none))
end
def salchowref49_Table.f (k : Nat) (l0 : List ByteArray) (l1 : List ByteArray) : Option ((List (List Int))) := if 0 ≤ (wrap64 ((l0.length : Int) + 1)) then (if (wrap64 ((l0.length : Int) + 1) : Int).toNat ≤ 11728124029610 then (salchowref49_Table.l0 k l0 l1 (List.replicate (wrap64 ((l0.length : Int) + 1) : Int).toNat []) (l0.length : Int)) else (none)) else (none)
def salchowref49_Table.T9 : Bool × List (List Nat × List Nat) := (true, [([], []), ([], []), ([0, 1], [0, 1]), ([2], [2]), ([], []), ([], []), ([], []), ([6], [6]), ([5, 7], [5, 7]), ([8], [8]), ([], []), ([9, 10], [9, 10]), ([11], [11]), ([], []), ([], []), ([13, 14], [13, 14]), ([15], [15]), ([], []), ([17], [17]), ([16, 18], [16, 18]), ([19], [19]), ([12, 20], [12, 20]), ([21], [21]), ([3, 4, 0, 1, 2, 3, 4, 5, 6, 7, 8, 9, 10, 11, 12, 13, 14, 15, 16, 17, 18, 19, 20, 21, 22], [3, 4]), ([23, 22, 0, 1, 2, 3, 4, 5, 6, 7, 8, 9, 10, 11, 12, 13, 14, 15, 16, 17, 18, 19, 20, 21, 22], [22, 23])])
def salchowref49_Table.B9 : List Nat := [0, 0, 3, 7, 0, 0, 0, 64, 224, 480, 0, 2016, 4064, 0, 0, 24576, 57344, 0, 131072, 516096, 1040384, 2097120, 4194272, 8388607, 16777215]
theorem salchowref49_Table.tab9 : rtab .any (opsOf Tryd.f47 9) = salchowref49_Table.T9 := by kernel_rfl
theorem salchowref49_Table.bits9 : waitsOk salchowref49_Table.T9.2 salchowref49_Table.B9 = true := by kernel_rfl
def salchowref49_Table.T12 : Bool × List (List Nat × List Nat) := (true, [([], []), ([], []), ([0, 1], [0, 1]), ([2], [2]), ([], []), ([], []), ([4, 5], [4, 5]), ([6], [6]), ([3, 7], [3, 7]), ([8], [8])])
def salchowref49_Table.B12 : List Nat := [0, 0, 3, 7, 0, 0, 48, 112, 255, 511]
theorem salchowref49_Table.tab12 : rtab .any (opsOf Tryd.f47 12) = salchowref49_Table.T12 := by kernel_rfl
theorem salchowref49_Table.bits12 : waitsOk salchowref49_Table.T12.2 salchowref49_Table.B12 = true := by kernel_rfl
def salchowref49_Table.T13 : Bool × List (List Nat × List Nat) := (true, [([], []), ([], []), ([0, 1], [0, 1]), ([2], [2]), ([], []), ([], []), ([], []), ([6], [6]), ([5, 7], [5, 7]), ([8], [8]), ([], []), ([10], [10]), ([9, 11], [9, 11]), ([12], [12]), ([3, 4, 0, 1, 2, 3, 4, 5, 6, 7, 8, 9, 10, 11, 12, 13], [3, 4]), ([14, 13, 0, 1, 2, 3, 4, 5, 6, 7, 8, 9, 10, 11, 12, 13], [13, 14])])
def salchowref49_Table.B13 : List Nat := [0, 0, 3, 7, 0, 0, 0, 64, 224, 480, 0, 1024, 4064, 8160, 16383, 32767]
theorem salchowref49_Table.tab13 : rtab .any (opsOf Tryd.f47 13) = salchowref49_Table.T13 := by kernel_rfl
theorem salchowref49_Table.bits13 : waitsOk salchowref49_Table.T13.2 salchowref49_Table.B13 = true := by kernel_rfl
set_option maxHeartbeats 8000000 in
set_option maxRecDepth 100000 in
theorem salchowref49_Table.calls (k : Nat) (A0 : Option Addr) (c0 : Nat) (l0 : List ByteArray) (A1 : Option Addr) (c1 : Nat) (l1 : List ByteArray) (r : List (List Int)) (w : World) (hr0 : Kd.C Kd.string w A0 l0.length l0) (hc0 : l0.length ≤ c0) (hr1 : Kd.C Kd.string w A1 l1.length l1) (hc1 : l1.length ≤ c1) (h : salchowref49_Table.f k l0 l1 = some r) :
  Calls Tryd.prog 47 #[.slice A0 l0.length c0, .slice A1 l1.length c1] w fun e w' => ∃ v0_ : Value, e = .returned (v0_) ∧ Kd.S (Kd.slice 3 (Kd.int .i64)) 80 w' w.heap.size (fun _ => True) v0_ r ∧ Below w.heap.size w w' := by
 have HR0 := Aside0.mk hr0
 have HC0 := Aside0.mk hc0
 clear hr0 hc0
 have HR1 := Aside0.mk hr1
 have HC1 := Aside0.mk hc1
 clear hr1 hc1
 have HB := Aside0.mk (Below.refl w.heap.size w)
 have H : (if 0 ≤ (wrap64 ((l0.length : Int) + 1)) then (if (wrap64 ((l0.length : Int) + 1) : Int).toNat ≤ 11728124029610 then (salchowref49_Table.l0 k l0 l1 (List.replicate (wrap64 ((l0.length : Int) + 1) : Int).toNat []) (l0.length : Int)) else (none)) else (none)) = some r := h
 clear h
 obtain ⟨ji3, hji3⟩ : ∃ j_ : Int, (wrap64 ((l0.length : Int) + 1)) = j_ := ⟨_, rfl⟩
 replace H : (if 0 ≤ (ji3) then (if (ji3 : Int).toNat ≤ 11728124029610 then (salchowref49_Table.l0 k l0 l1 (List.replicate (ji3 : Int).toNat []) (l0.length : Int)) else (none)) else (none)) = some r := by first | (rw [hji3] at H; exact H) | (simp only [hji3] at H ⊢; exact H)
 have hji3w : (IntKind.i64.wrap ((l0.length : Int) + 1)) = ji3 := (i64_w _).trans hji3
 by_cases c4 : 0 ≤ (ji3)
 ·rw [if_pos c4] at H
  have c4b0 := eq_true c4
  have c4b1 : decide (0 ≤ (ji3)) = true := decide_eq_true c4
  clear c4
  by_cases c5 : (ji3 : Int).toNat ≤ 11728124029610
  ·rw [if_pos c5] at H
   have c5b0 := eq_true c5
   have c5b1 : decide ((ji3 : Int).toNat ≤ 11728124029610) = true := decide_eq_true c5
   clear c5
   obtain ⟨y408, hy408⟩ : ∃ y_ : List (List Int), y_ = (List.replicate (ji3 : Int).toNat []) := ⟨_, rfl⟩
   replace H : (salchowref49_Table.l0 k l0 l1 y408 (l0.length : Int)) = some r := by first | (rw [hy408]; with_reducible exact H) | (have H2_ := (Option.bind_some _ _).symm.trans H; rw [hy408]; with_reducible exact H2_) | (have H2_ := (Option.bind_some _ _).symm.trans H; with_reducible exact H2_) | with_reducible exact H | (rw [hy408]; exact H) | exact H
   have Ny408 := Aside0.mk hy408
   clear hy408
   have H' := Aside0.mk H
   clear H
   go_enter Tryd.func47, Tryd.ntmps47
   go_wp2_with (first | ((with_reducible refine gate_dst (N := 11) rfl ?_); (try (refine gate_guard (by rfl) ?_; dsimp only)); refine Kd.S_make (Kd.slice 3 (Kd.int .i64)) _ 80 rfl (N := 11) rfl 78 _ _ rfl ji3 rfl rfl Tryd.underlying78 (.slice none 0 0) 24 info80 rfl (by decide) (by omega) [] (ok := fun _ => True) (okp := fun _ => True) ⟨_, rfl, Kd.R_nil _ _ _ _ _⟩ (fun _ hk => hk) trivial (of_decide_eq_true (by first | (with_reducible assumption) | assumption)) (Nat.le_trans (Nat.mul_le_mul_right _ (of_decide_eq_true (by first | (with_reducible assumption) | assumption) : ji3.toNat ≤ 11728124029610)) (by omega)) (Below.refl _ _) (Nat.le_refl _) ?_; intro v409 w6 ho7 hb hg_ hnew_; clear hg_ hnew_; (first | rw [← Ny408.out] at ho7 | (simp only [Int.reduceToNat] at ho7; rw [← Ny408.out] at ho7)); have n0_ := Aside0.mk (Kd.S_lower ho7 (below_size (by repeat (first | (with_reducible first | exact HB.out | apply below_alloc | apply pw_below_drewN | apply below_drew1) | exact HB.out)))); have n1_ := Aside0.mk (below_step (by repeat (first | (with_reducible first | exact HB.out | apply below_alloc | apply pw_below_drewN | apply below_drew1) | exact HB.out)) hb); clear HB; have HO410 := n0_; have HB := n1_; clear n0_ n1_; clear hb ho7))
   go_loopg [6] k (fun kq v6 w' => ∃ (x5_1 : List (List Int)) (x6_1 : Int), v6 = .int .i64 x6_1 ∧ Aside0 (salchowref49_Table.l0 kq l0 l1 x5_1 x6_1 = some r) ∧ Aside0 (kq ≤ k) ∧ Aside0 (Kd.S (Kd.slice 3 (Kd.int .i64)) 80 w' w.heap.size (fun _ => True) v409 x5_1) ∧ Aside0 (Below w.heap.size w w'))
   case atStart => exact ⟨(y408), ((l0.length : Int)), (by first | rfl | (simp; done) | (simp [*]; done)), H', ⟨Nat.le_refl _⟩, ⟨by (with_reducible repeat (first | apply Kd.S_alloc | apply Kd.S_drewN | apply Kd.S_drew)); exact HO410.out⟩, ⟨by repeat (first | (with_reducible first | exact HB.out | apply below_alloc | apply pw_below_drewN | apply below_drew1) | exact HB.out)⟩⟩
   case round =>
    clear H'
    try clear c1
    try clear p2
    try clear c4
    try clear c4b0
    try clear c4b1
    try clear c5
    try clear c5b0
    try clear c5b1
    try clear p6
    obtain ⟨x5_1, x6_1, rfl, HA, HK1, HO_5, HB⟩ := hrel
    cases gk with
    | zero => exact absurd HA.out (by simp [salchowref49_Table.l0])
    | succ k1 =>
     have H := HA.out
     clear HA
     simp only [salchowref49_Table.l0] at H
     by_cases c8 : x6_1 ≥ 0
     ·rw [if_pos c8] at H
      have c8b0 : decide (0 ≤ x6_1) = true := decide_eq_true c8
      clear c8
      obtain ⟨ji9, hji9⟩ : ∃ j_ : Int, (wrap64 ((l1.length : Int) + 1)) = j_ := ⟨_, rfl⟩
      replace H : (if 0 ≤ (ji9) then (if (ji9 : Int).toNat ≤ 35184372088832 then (if 0 ≤ x6_1 then (if x6_1 < (x5_1.length : Int) then (salchowref49_Table.l1 k1 l0 l1 (x5_1.set (x6_1 : Int).toNat (List.replicate (ji9 : Int).toNat 0)) x6_1 (l1.length : Int)) else (none)) else (none)) else (none)) else (none)) = some r := by first | (rw [hji9] at H; exact H) | (simp only [hji9] at H ⊢; exact H)
      have hji9w : (IntKind.i64.wrap ((l1.length : Int) + 1)) = ji9 := (i64_w _).trans hji9
      by_cases c10 : 0 ≤ (ji9)
      ·rw [if_pos c10] at H
       have c10b0 := eq_true c10
       have c10b1 : decide (0 ≤ (ji9)) = true := decide_eq_true c10
       clear c10
       by_cases c11 : (ji9 : Int).toNat ≤ 35184372088832
       ·rw [if_pos c11] at H
        have c11b0 := eq_true c11
        have c11b1 : decide ((ji9 : Int).toNat ≤ 35184372088832) = true := decide_eq_true c11
        clear c11
        obtain ⟨y411, hy411⟩ : ∃ y_ : List Int, y_ = (List.replicate (ji9 : Int).toNat 0) := ⟨_, rfl⟩
        replace H : (if 0 ≤ x6_1 then (if x6_1 < (x5_1.length : Int) then (salchowref49_Table.l1 k1 l0 l1 (x5_1.set (x6_1 : Int).toNat y411) x6_1 (l1.length : Int)) else (none)) else (none)) = some r := by first | (rw [hy411]; with_reducible exact H) | (have H2_ := (Option.bind_some _ _).symm.trans H; rw [hy411]; with_reducible exact H2_) | (have H2_ := (Option.bind_some _ _).symm.trans H; with_reducible exact H2_) | with_reducible exact H | (rw [hy411]; exact H) | exact H
        have Ny411 := Aside0.mk hy411
        clear hy411
        by_cases c12 : 0 ≤ x6_1
        ·rw [if_pos c12] at H
         have c12b0 : decide (0 ≤ x6_1) = true := decide_eq_true c12
         clear c12
         by_cases c13 : x6_1 < (x5_1.length : Int)
         ·rw [if_pos c13] at H
          have c13b0 : decide (x6_1 < (x5_1.length : Int)) = true := decide_eq_true c13
          clear c13
          obtain ⟨y414, hy414⟩ : ∃ y_ : List (List Int), y_ = (x5_1.set (x6_1 : Int).toNat y411) := ⟨_, rfl⟩
          replace H : (salchowref49_Table.l1 k1 l0 l1 y414 x6_1 (l1.length : Int)) = some r := by first | (rw [hy414]; with_reducible exact H) | (have H2_ := (Option.bind_some _ _).symm.trans H; rw [hy414]; with_reducible exact H2_) | (have H2_ := (Option.bind_some _ _).symm.trans H; with_reducible exact H2_) | with_reducible exact H | (rw [hy414]; exact H) | exact H
          have Ny414 := Aside0.mk hy414
          clear hy414
          have H' := Aside0.mk H
          clear H
          go_wp2_with (first | ((with_reducible refine gate_dst (N := 23) rfl ?_); (try (refine gate_guard (by rfl) ?_; dsimp only)); refine Kd.R_make (Kd.int .i64) _ 3 rfl (N := 23) rfl 80 _ _ rfl ji9 rfl rfl Tryd.underlying80 (.int .i64 0) 8 info3 rfl (by decide) (by omega) 0 (ok := fun _ => True) (okp := fun _ => True) rfl (fun _ hk => hk) trivial (of_decide_eq_true (by first | (with_reducible assumption) | assumption)) (Nat.le_trans (Nat.mul_le_mul_right _ (of_decide_eq_true (by first | (with_reducible assumption) | assumption) : ji9.toNat ≤ 35184372088832)) (by omega)) (Below.refl _ _) (Nat.le_refl _) ?_; intro v412 w15 ho16 hb hg_ hnew_; clear hg_ hnew_; (first | rw [← Ny411.out] at ho16 | (simp only [Int.reduceToNat] at ho16; rw [← Ny411.out] at ho16)); have n0_ := Aside0.mk (Kd.S_elder' (by (with_reducible repeat (first | apply Kd.S_alloc | apply Kd.S_drewN | apply Kd.S_drew)); exact HO_5.out) (Kd.R_base ho16) hb); have n1_ := Aside0.mk (Kd.R_lower ho16 (below_size (by repeat (first | (with_reducible first | exact HB.out | apply below_alloc | apply pw_below_drewN | apply below_drew1) | exact HB.out)))); have n2_ := Aside0.mk (below_step (by repeat (first | (with_reducible first | exact HB.out | apply below_alloc | apply pw_below_drewN | apply below_drew1) | exact HB.out)) hb); clear HO_5; clear HB; have HO_5 := n0_; have HO413 := n1_; have HB := n2_; clear n0_ n1_ n2_; clear hb ho16; have p14 : 0 ≤ (x6_1 : Int) := of_decide_eq_true (by first | (with_reducible assumption) | assumption); have q14 : (x6_1 : Int) < ((x5_1.length : Int) : Int) := of_decide_eq_true (by first | (with_reducible assumption) | assumption); obtain ⟨go14, co14, eo14, gb14, gl14, cl14, HG14⟩ := Kd.S_form HO_5.out (by omega); (first | cases eo14 | (injection eo14 with ea_ en_ ec_; (first | subst ea_ | (injection ea_ with ea_; subst ea_)); subst ec_; clear en_)); have GB14 := Aside0.mk gb14; have GG14 := Aside0.mk HG14; clear gb14 gl14 HG14; obtain ⟨_, ce14, hcl14, hM14, hcc14, hfr14, _, _⟩ := Kd.S_elem HO_5.out [] (x6_1 : Int) p14 q14; obtain ⟨ve14_0, rfl, ge14_0⟩ := hM14; have hx14_0 := hcc14 0 _ rfl; have hf14_0 := hfr14 0; (try simp only [show ((Kd.slice 3 (Kd.int .i64))).sz = 1 from rfl, Nat.mul_one, Nat.add_zero] at hx14_0); (try simp only [show ((Kd.slice 3 (Kd.int .i64))).sz = 1 from rfl, Nat.mul_one, Nat.add_zero] at hf14_0); (try clear hcl14); (try clear hcc14); (try clear hfr14); (try clear hM14); replace p14 := eq_true p14; replace q14 := eq_true q14; have n_ := Aside0.mk (Kd.S_mono (ok' := (fun k_ => some k_ ≠ (v412 : Value).ownBlock)) HO_5.out (fun k_ hk => hk.2)); clear HO_5; have HO_5 := n_; clear n_; have HX17 := Aside0.mk (show Kd.S (Kd.slice 3 (Kd.int .i64)) 80 w15 w.heap.size (fun k_ => ((fun _ => True)) k_ ∧ ¬ ((fun k_ => some k_ = (v412 : Value).ownBlock)) k_) (.slice (some ⟨go14, 0, none⟩) x5_1.length co14) x5_1 from (by (with_reducible repeat (first | apply Kd.S_alloc | apply Kd.S_drewN | apply Kd.S_drew)); exact Kd.S_mono HO_5.out (fun k_ hk => ⟨trivial, fun e_ => hk e_⟩))); obtain ⟨oki17, ce17, hcl17, hM17, hcc17, hfr17, hoki17, hH17⟩ := Kd.S_elem HX17.out [] (x6_1 : Int) (of_decide_eq_true (by first | (with_reducible assumption) | assumption)) (by have h_ : (x6_1 : Int) < ((x5_1.length : Int) : Int) := of_decide_eq_true (by first | (with_reducible assumption) | assumption); first | exact h_ | (have e_ := (Kd.S_reads' HO_5.out).1; omega) | simpa using h_); obtain ⟨ve17_0, rfl, ge17_0⟩ := hM17; have HP17 := Kd.S_seg hH17 (of_decide_eq_true (by first | (with_reducible assumption) | assumption)) (by have h_ : (x6_1 : Int) < ((x5_1.length : Int) : Int) := of_decide_eq_true (by first | (with_reducible assumption) | assumption); first | exact h_ | (have e_ := (Kd.S_reads' HO_5.out).1; omega) | simpa using h_) (seg := [v412]) (j := 0) (show 1 ≤ 1 from by decide) (x' := y411) (Kd.M_row (Kd.R_mono (Kd.R_tight rfl (Kd.R_mono (ok' := fun k_ => ((fun _ => True)) k_ ∧ k_ ≠ go14) (Kd.R_apart' (HO413.out) (Kd.S_typed HO_5.out) (by decide)) (fun k_ hk => ⟨trivial, fun e_ => (hk.2) (by rw [e_]; rfl)⟩))) (fun _ h_ => Or.inr (h_)))) (fun _ hk => hk) (fun k_ hk_ => ((Kd.R_mono (ok' := fun k_ => ((fun _ => True)) k_ ∧ k_ ≠ go14) (Kd.R_apart' (HO413.out) (Kd.S_typed HO_5.out) (by decide)) (fun k_ hk => ⟨trivial, fun e_ => (hk.2) (by rw [e_]; rfl)⟩))).1 k_ hk_.symm); have hx17_0 := hcc17 0 _ rfl; (try simp only [show ((Kd.slice 3 (Kd.int .i64))).sz = 1 from rfl, Nat.mul_one, Nat.add_zero] at hx17_0); have hf17_0 := hfr17 0; (try simp only [show ((Kd.slice 3 (Kd.int .i64))).sz = 1 from rfl, Nat.mul_one, Nat.add_zero] at hf17_0); (try clear hcl17); (try clear hcc17); (try clear hfr17); (try clear hM17); (try clear hoki17); (try clear hH17); (try simp only [show ((Kd.slice 3 (Kd.int .i64))).sz = 1 from rfl, Nat.mul_one, Nat.add_zero] at HP17)) | ((with_reducible refine gate_store (t := 80) (p := 24) rfl ?_); obtain ⟨Av_, cv_, ev_, -, -⟩ := Kd.R_reads HO413.out; refine store_event (t := 80) (p := 24) (v := ?vo_w18) (w1 := (w15.setCell ⟨go14, (x6_1 : Int).toNat, none⟩ (v412))) ?hg ?ho ?hn ?hr ?_; (case ho => rfl); (case hg => rfl); (case hn => rfl); (case hr => first | (go_simp; done) | (go_simp; rfl)); clear ev_; intro w18 hw; have hg : w15.grownBy w18 (some go14) := (by rw [hw]; exact HP17.2); have hp_ : Kd.S (Kd.slice 3 (Kd.int .i64)) 80 w18 w.heap.size (fun _ => True) (.slice (some ⟨go14, 0, none⟩) x5_1.length co14) y414 := (by rw [hw, Ny414.out]; exact HP17.1); clear HP17; have n0_ := Aside0.mk (hp_); have n1_ := Aside0.mk ((by rw [hw]; exact below_set (HB.out) GB14.out : Below w.heap.size w w18)); clear HO_5; clear HB; clear HO413; have HO_5 := n0_; have HB := n1_; clear n0_ n1_; clear hg hw hp_))
          go_loopg [7] k1 (fun kq v7 w' => ∃ (x5_2 : List (List Int)) (x7_2 : Int), v7 = .int .i64 x7_2 ∧ Aside0 (salchowref49_Table.l1 kq l0 l1 x5_2 x6_1 x7_2 = some r) ∧ Aside0 (kq ≤ k1) ∧ Aside0 (Kd.S (Kd.slice 3 (Kd.int .i64)) 80 w' w.heap.size (fun _ => True) (.slice (some ⟨go14, 0, none⟩) x5_1.length co14) x5_2) ∧ Aside0 (Below w.heap.size w w'))
          case atStart => exact ⟨(y414), ((l1.length : Int)), (by first | rfl | (simp; done) | (simp [*]; done)), H', ⟨Nat.le_refl _⟩, ⟨by (with_reducible repeat (first | apply Kd.S_alloc | apply Kd.S_drewN | apply Kd.S_drew)); exact HO_5.out⟩, ⟨by repeat (first | (with_reducible first | exact HB.out | apply below_alloc | apply pw_below_drewN | apply below_drew1) | exact HB.out)⟩⟩
          case round =>
           clear H'
           try clear c1
           try clear p1
           try clear q1
           try clear hx1
           try clear p2
           try clear c4
           try clear c4b0
           try clear c4b1
           try clear c5
           try clear c5b0
           try clear c5b1
           try clear p6
           try clear c8
           try clear c8b0
           try clear c10
           try clear c10b0
           try clear c10b1
           try clear c11
           try clear c11b0
           try clear c11b1
           try clear c12
           try clear c12b0
           try clear c13
           try clear c13b0
           try clear c14
           try clear p14
           try clear q14
           try clear hx14
           try clear hf14
           try clear c17
           try clear hx17
           try clear hf17
           try clear hx14_0
           try clear hx17_0
           try clear p14
           try clear p2
           try clear p6
           try clear q14
           obtain ⟨x5_2, x7_2, rfl, HA, HK2, HO_5, HB⟩ := hrel
           have hl5_2 := (Kd.S_reads' HO_5.out).1
           rw [hl5_2] at HO_5
           (try simp only [hl5_2])
           cases gk with
           | zero => exact absurd HA.out (by simp [salchowref49_Table.l1])
           | succ k2 =>
            have H := HA.out
            clear HA
            simp only [salchowref49_Table.l1] at H
            by_cases c19 : x7_2 ≥ 0
            ·rw [if_pos c19] at H
             have c19b0 : decide (0 ≤ x7_2) = true := decide_eq_true c19
             clear c19
             have HC20 := Aside0.mk H
             clear H
             go_upto_region 10 with (fail)
             go_cut [55] (fun v55 wc => ∃ (kq : Nat) (x55_19 : Bool), v55 = .bool x55_19 ∧ Aside0 (salchowref49_Table.j2 kq l0 l1 x5_2 x6_1 x7_2 x55_19 = some r) ∧ Aside0 (kq ≤ k2) ∧ Aside0 (Kd.S (Kd.slice 3 (Kd.int .i64)) 80 wc w.heap.size (fun _ => True) (.slice (some ⟨go14, 0, none⟩) x5_2.length co14) x5_2) ∧ Aside0 (Below w.heap.size w wc))
             case first =>
              have H := HC20.out
              clear HC20
              by_cases c21 : x6_1 = (l0.length : Int)
              ·rw [if_pos c21] at H
               have c21b0 : (x6_1 == (l0.length : Int)) = true := beq_iff_eq.mpr c21
               have c21b1 : (x6_1 != (l0.length : Int)) = false := bne_eq_false_iff_eq.mpr c21
               clear c21
               (first | rw [c21b0] | (simp only [i64_w, i32_w]; rw [c21b0]) | skip)
               have H' := Aside0.mk H
               clear H
               go_wp2
               go_meet
               case rel => exact ⟨_, (true), (by first | rfl | (simp; done) | (simp [*]; done)), H', ⟨by have := HK1.out; have := HK2.out; first | omega | exact Nat.le_refl _⟩, ⟨by (try simp only [hl5_2]); (with_reducible repeat (first | apply Kd.S_alloc | apply Kd.S_drewN | apply Kd.S_drew)); exact HO_5.out⟩, ⟨by repeat (first | (with_reducible first | exact HB.out | apply below_alloc | apply pw_below_drewN | apply below_drew1) | exact HB.out)⟩⟩
              ·rw [if_neg c21] at H
               have c21b0 : (x6_1 == (l0.length : Int)) = false := beq_eq_false_iff_ne.mpr c21
               have c21b1 : (x6_1 != (l0.length : Int)) = true := bne_iff_ne.mpr c21
               (first | rw [c21b0] | (simp only [i64_w, i32_w]; rw [c21b0]) | skip)
               have H' := Aside0.mk H
               clear H
               go_wp2
               go_meet
               case rel => exact ⟨_, ((x7_2 == (l1.length : Int))), (by first | rfl | (simp; done) | (simp [*]; done)), H', ⟨by have := HK1.out; have := HK2.out; first | omega | exact Nat.le_refl _⟩, ⟨by (try simp only [hl5_2]); (with_reducible repeat (first | apply Kd.S_alloc | apply Kd.S_drewN | apply Kd.S_drew)); exact HO_5.out⟩, ⟨by repeat (first | (with_reducible first | exact HB.out | apply below_alloc | apply pw_below_drewN | apply below_drew1) | exact HB.out)⟩⟩
             case rest =>
              clear HC20
              try clear c1
              try clear p1
              try clear q1
              try clear hx1
              try clear c2
              try clear p2
              try clear c4
              try clear c4b0
              try clear c4b1
              try clear c5
              try clear c5b0
              try clear c5b1
              try clear p6
              try clear c8
              try clear c8b0
              try clear c10
              try clear c10b0
              try clear c10b1
              try clear c11
              try clear c11b0
              try clear c11b1
              try clear c12
              try clear c12b0
              try clear c13
              try clear c13b0
              try clear c14
              try clear p14
              try clear q14
              try clear hx14
              try clear hf14
              try clear c17
              try clear hx17
              try clear hf17
              try clear c19
              try clear c19b0
              try clear c21
              try clear c21b0
              try clear c21b1
              try clear hx14_0
              try clear hx17_0
              try clear p1
              try clear p14
              try clear p2
              try clear p6
              try clear q1
              try clear q14
              obtain ⟨kq, x55_19, rfl, HA, HJ19, HO_5, HB⟩ := hcut
              cases kq with
              | zero => exact absurd HA.out (by simp [salchowref49_Table.j2])
              | succ kj19 =>
               have H := HA.out
               clear HA
               simp only [salchowref49_Table.j2] at H
               by_cases c22 : x55_19 = true
               ·subst c22
                have H1 : (if 0 ≤ x6_1 then (if x6_1 < (x5_2.length : Int) then (if 0 ≤ x7_2 then (if x7_2 < ((rd_L7 x5_2 x6_1).length : Int) then (salchowref49_Table.l1 kj19 l0 l1 (x5_2.set (x6_1 : Int).toNat ((rd_L7 x5_2 x6_1).set (x7_2 : Int).toNat (wrap64 ((wrap64 ((wrap64 ((l0.length : Int) - x6_1)) + (l1.length : Int))) - x7_2)))) x6_1 (wrap64 (x7_2 - 1))) else (none)) else (none)) else (none)) else (none)) = some r := by rw [if_pos rfl] at H; exact H
                clear H
                have H := H1
                clear H1
                by_cases c23 : 0 ≤ x6_1
                ·rw [if_pos c23] at H
                 have c23b0 : decide (0 ≤ x6_1) = true := decide_eq_true c23
                 clear c23
                 by_cases c24 : x6_1 < (x5_2.length : Int)
                 ·rw [if_pos c24] at H
                  have c24b0 : decide (x6_1 < (x5_2.length : Int)) = true := decide_eq_true c24
                  clear c24
                  by_cases c25 : 0 ≤ x7_2
                  ·rw [if_pos c25] at H
                   have c25b0 : decide (0 ≤ x7_2) = true := decide_eq_true c25
                   clear c25
                   by_cases c26 : x7_2 < ((rd_L7 x5_2 x6_1).length : Int)
                   ·rw [if_pos c26] at H
                    have c26b0 : decide (x7_2 < ((rd_L7 x5_2 x6_1).length : Int)) = true := decide_eq_true c26
                    clear c26
                    obtain ⟨y416, hy416⟩ : ∃ y_ : List Int, y_ = ((rd_L7 x5_2 x6_1).set (x7_2 : Int).toNat (wrap64 ((wrap64 ((wrap64 ((l0.length : Int) - x6_1)) + (l1.length : Int))) - x7_2))) := ⟨_, rfl⟩
                    replace H : (salchowref49_Table.l1 kj19 l0 l1 (x5_2.set (x6_1 : Int).toNat y416) x6_1 (wrap64 (x7_2 - 1))) = some r := by first | (rw [hy416]; with_reducible exact H) | (have H2_ := (Option.bind_some _ _).symm.trans H; rw [hy416]; with_reducible exact H2_) | (have H2_ := (Option.bind_some _ _).symm.trans H; with_reducible exact H2_) | with_reducible exact H | (rw [hy416]; exact H) | exact H
                    have Ny416 := Aside0.mk hy416
                    clear hy416
                    obtain ⟨y418, hy418⟩ : ∃ y_ : List (List Int), y_ = (x5_2.set (x6_1 : Int).toNat y416) := ⟨_, rfl⟩
                    replace H : (salchowref49_Table.l1 kj19 l0 l1 y418 x6_1 (wrap64 (x7_2 - 1))) = some r := by first | (rw [hy418]; with_reducible exact H) | (have H2_ := (Option.bind_some _ _).symm.trans H; rw [hy418]; with_reducible exact H2_) | (have H2_ := (Option.bind_some _ _).symm.trans H; with_reducible exact H2_) | with_reducible exact H | (rw [hy418]; exact H) | exact H
                    have Ny418 := Aside0.mk hy418
                    clear hy418
                    have H' := Aside0.mk H
                    clear H
                    have p415 : 0 ≤ (x6_1 : Int) := of_decide_eq_true (by first | (with_reducible assumption) | assumption)
                    have q415 : x6_1 < (x5_2.length : Int) := of_decide_eq_true (by first | (with_reducible assumption) | assumption)
                    obtain ⟨ad415, A415_0, c415_0, e415, hx415_0, hl415_0, hi415_0⟩ := at_L7 (Kd.S_reads' HO_5.out).2.2 x6_1 p415 q415
                    obtain rfl : (⟨go14, 0, none⟩ : Addr) = ad415 := (by injection e415)
                    obtain ⟨ce415, hce415, hMe415, hcc415⟩ := Kd.S_get HO_5.out [] x6_1 p415 (by first | exact q415 | exact of_decide_eq_true (by first | (with_reducible assumption) | assumption) | (have e_ := (Kd.S_reads' HO_5.out).1; omega))
                    obtain ⟨ve415_0, rfl, ge415_0⟩ := hMe415
                    have hv415_0 := hcc415 0 _ rfl
                    rw [Nat.add_zero, show ((Kd.slice 3 (Kd.int .i64))).sz = 1 from rfl, Nat.mul_one] at hv415_0
                    replace hv415_0 := Option.some.inj (hv415_0.symm.trans hx415_0)
                    rw [hv415_0] at ge415_0
                    have HL415_0 := Aside0.mk (show Kd.R (Kd.int .i64) 3 _ _ _ _ (rd_L7 x5_2 x6_1) from ge415_0)
                    clear hv415_0 ge415_0
                    have HX415_0 := Aside0.mk hx415_0
                    clear hcc415 hce415
                    (first | simp only [add_plain] at hx415_0 | simp only [add_at] at hx415_0 | simp only [Addr.add, Nat.zero_add] at hx415_0 | skip)
                    have HR415_0 := Aside0.mk hi415_0
                    have HC415_0 := Aside0.mk hl415_0
                    clear hi415_0 hl415_0
                    replace p415 := eq_true p415
                    replace q415 := eq_true q415
                    have p27 : 0 ≤ (x7_2 : Int) := of_decide_eq_true (by first | (with_reducible assumption) | assumption)
                    have q27 : (x7_2 : Int) < (((rd_L7 x5_2 x6_1).length : Int) : Int) := of_decide_eq_true (by first | (with_reducible assumption) | assumption)
                    obtain ⟨go27, co27, eo27, gb27, gl27, cl27, HG27⟩ := Kd.R_form HL415_0.out (by omega)
                    (first | cases eo27 | (injection eo27 with ea_ en_ ec_; (first | subst ea_ | (injection ea_ with ea_; subst ea_)); subst ec_; clear en_))
                    have GB27 := Aside0.mk gb27
                    have GG27 := Aside0.mk HG27
                    clear gb27 gl27 HG27
                    obtain ⟨hx27_0, hf27_0⟩ := Kd.R_celln 0 HL415_0.out (x7_2 : Int) p27 q27
                    replace p27 := eq_true p27
                    replace q27 := eq_true q27
                    have hq28 : (x6_1 : Int) < (x5_2.length : Int) := (by have h_ : (x6_1 : Int) < ((x5_2.length : Int) : Int) := of_decide_eq_true (by first | (with_reducible assumption) | assumption); first | exact h_ | (have e_ := (Kd.S_reads' HO_5.out).1; omega) | simpa only [List.length_set, List.length_set] using h_)
                    obtain ⟨oki28, ce28, hcl28, hM28, hcc28, hok28, hbk28⟩ := Kd.S_borrow HO_5.out [] (x6_1 : Int) (of_decide_eq_true (by first | (with_reducible assumption) | assumption)) hq28
                    obtain ⟨ve28_0, rfl, ge28_0⟩ := hM28
                    have hv28 := hcc28 0 _ rfl
                    rw [Nat.add_zero, show ((Kd.slice 3 (Kd.int .i64))).sz = 1 from rfl, Nat.mul_one] at hv28
                    replace hv28 := Option.some.inj (hv28.symm.trans HX415_0.out)
                    subst hv28
                    clear hcc28 hcl28
                    replace ge28_0 := (show Kd.R (Kd.int .i64) 3 _ _ _ _ (rd_L7 x5_2 x6_1) from ge28_0)
                    have HP28 := Kd.R_putg ge28_0 (x7_2 : Int) (wrap64 ((wrap64 ((wrap64 ((l0.length : Int) - x6_1)) + (l1.length : Int))) - x7_2))
                    go_wp2_with (first | ((with_reducible refine gate_store (t := 3) (p := 80) rfl ?_); refine store_event (t := 3) (p := 80) (v := ?vo_w29) (w1 := (wc.setCell ⟨go27, (x7_2 : Int).toNat, none⟩ (.int .i64 (wrap64 ((wrap64 ((wrap64 ((l0.length : Int) - x6_1)) + (l1.length : Int))) - x7_2))))) ?hg ?ho ?hn ?hr ?_; (case ho => rfl); (case hg => rfl); (case hn => rfl); (case hr => first | (go_simp; done) | (go_simp; rfl)); intro w29 hw; have hg : wc.grownBy w29 (some go27) := (by rw [hw]; exact HP28.2); have hz_ : Kd.R (Kd.int .i64) 3 w29 w.heap.size oki28 (.slice (some ⟨go27, 0, none⟩) (rd_L7 x5_2 x6_1).length c415_0) y416 := (by rw [hw, Ny416.out]; exact HP28.1); have hp_ : Kd.S (Kd.slice 3 (Kd.int .i64)) 80 w29 w.heap.size (fun _ => True) (.slice (some ⟨go14, 0, none⟩) x5_2.length co14) y418 := (by rw [Ny418.out]; exact hbk28 hg (fun k_ e_ => by injection e_ with e_; subst e_; exact ge28_0.1 _ rfl) (Kd.M_row hz_)); have hm_ := Kd.R_mono hz_ hok28; clear HP28 hbk28; have n0_ := Aside0.mk (hp_); have n1_ := Aside0.mk ((by rw [hw]; exact below_set (HB.out) GB27.out : Below w.heap.size w w29)); have n2_ := Aside0.mk (hm_); have n3_ := Aside0.mk ((Kd.R_reads' hm_).2.1); clear HO_5; clear HB; clear HL415_0; have HO_5 := n0_; have HB := n1_; have HL435 := n2_; have HC417 := n3_; clear n0_ n1_ n2_ n3_; clear hg hw hp_ hz_ hm_ hok28))
                    (try simp only [← hl5_2])
                    go_roundg kj19
                    case measure => have := HK1.out; have := HK2.out; have := HJ19.out; omega
                    case rel => exact ⟨(y418), (wrap64 (x7_2 - 1)), (by first | rfl | (simp; done) | (simp [*]; done)), H', ⟨by have := HK1.out; have := HK2.out; have := HJ19.out; omega⟩, ⟨by (try simp only [hl5_2]); (with_reducible repeat (first | apply Kd.S_alloc | apply Kd.S_drewN | apply Kd.S_drew)); exact HO_5.out⟩, ⟨by repeat (first | (with_reducible first | exact HB.out | apply below_alloc | apply pw_below_drewN | apply below_drew1) | exact HB.out)⟩⟩
                   ·rw [if_neg c26] at H
                    exact absurd H (by simp)
                  ·rw [if_neg c25] at H
                   exact absurd H (by simp)
                 ·rw [if_neg c24] at H
                  exact absurd H (by simp)
                ·rw [if_neg c23] at H
                 exact absurd H (by simp)
               ·replace c22 := Bool.eq_false_iff.mpr c22
                subst c22
                have H1 : (if 0 ≤ x6_1 then (if x6_1 < (l0.length : Int) then (if 0 ≤ x7_2 then (if x7_2 < (l1.length : Int) then (if (rdOf ByteArray.empty l0 x6_1).toList = (rdOf ByteArray.empty l1 x7_2).toList then (if x6_1 < (x5_2.length : Int) then (if 0 ≤ (wrap64 (x6_1 + 1)) then (if (wrap64 (x6_1 + 1)) < (x5_2.length : Int) then (if 0 ≤ (wrap64 (x7_2 + 1)) then (if (wrap64 (x7_2 + 1)) < ((rd_L7 x5_2 (wrap64 (x6_1 + 1))).length : Int) then (if x7_2 < ((rd_L7 x5_2 x6_1).length : Int) then (salchowref49_Table.l1 kj19 l0 l1 (x5_2.set (x6_1 : Int).toNat ((rd_L7 x5_2 x6_1).set (x7_2 : Int).toNat (rd (rd_L7 x5_2 (wrap64 (x6_1 + 1))) (wrap64 (x7_2 + 1))))) x6_1 (wrap64 (x7_2 - 1))) else (none)) else (none)) else (none)) else (none)) else (none)) else (none)) else (if x6_1 < (x5_2.length : Int) then (if 0 ≤ (wrap64 (x6_1 + 1)) then (if (wrap64 (x6_1 + 1)) < (x5_2.length : Int) then (if x7_2 < ((rd_L7 x5_2 (wrap64 (x6_1 + 1))).length : Int) then (if 0 ≤ (wrap64 (x7_2 + 1)) then (if (wrap64 (x7_2 + 1)) < ((rd_L7 x5_2 x6_1).length : Int) then (if x7_2 < ((rd_L7 x5_2 x6_1).length : Int) then (salchowref49_Table.l1 kj19 l0 l1 (x5_2.set (x6_1 : Int).toNat ((rd_L7 x5_2 x6_1).set (x7_2 : Int).toNat (wrap64 (1 + (mn (rd (rd_L7 x5_2 (wrap64 (x6_1 + 1))) x7_2) (rd (rd_L7 x5_2 x6_1) (wrap64 (x7_2 + 1)))))))) x6_1 (wrap64 (x7_2 - 1))) else (none)) else (none)) else (none)) else (none)) else (none)) else (none)) else (none))) else (none)) else (none)) else (none)) else (none)) = some r := by rw [if_neg (show ¬ (false = true) by decide)] at H; exact H
                clear H
                have H := H1
                clear H1
                by_cases c30 : 0 ≤ x6_1
                ·rw [if_pos c30] at H
                 have c30b0 : decide (0 ≤ x6_1) = true := decide_eq_true c30
                 clear c30
                 by_cases c31 : x6_1 < (l0.length : Int)
                 ·rw [if_pos c31] at H
                  have c31b0 : decide (x6_1 < (l0.length : Int)) = true := decide_eq_true c31
                  clear c31
                  by_cases c32 : 0 ≤ x7_2
                  ·rw [if_pos c32] at H
                   have c32b0 : decide (0 ≤ x7_2) = true := decide_eq_true c32
                   clear c32
                   by_cases c33 : x7_2 < (l1.length : Int)
                   ·rw [if_pos c33] at H
                    have c33b0 : decide (x7_2 < (l1.length : Int)) = true := decide_eq_true c33
                    clear c33
                    by_cases c34 : (rdOf ByteArray.empty l0 x6_1).toList = (rdOf ByteArray.empty l1 x7_2).toList
                    ·rw [if_pos c34] at H
                     have c34b0 : ((rdOf ByteArray.empty l0 x6_1).toList == (rdOf ByteArray.empty l1 x7_2).toList) = true := beq_iff_eq.mpr c34
                     have c34b1 : ((rdOf ByteArray.empty l0 x6_1).toList != (rdOf ByteArray.empty l1 x7_2).toList) = false := bne_eq_false_iff_eq.mpr c34
                     clear c34
                     by_cases c35 : x6_1 < (x5_2.length : Int)
                     ·rw [if_pos c35] at H
                      have c35b0 : decide (x6_1 < (x5_2.length : Int)) = true := decide_eq_true c35
                      clear c35
                      obtain ⟨ji36, hji36⟩ : ∃ j_ : Int, (wrap64 (x6_1 + 1)) = j_ := ⟨_, rfl⟩
                      replace H : (if 0 ≤ (ji36) then (if (ji36) < (x5_2.length : Int) then (if 0 ≤ (wrap64 (x7_2 + 1)) then (if (wrap64 (x7_2 + 1)) < ((rd_L7 x5_2 (ji36)).length : Int) then (if x7_2 < ((rd_L7 x5_2 x6_1).length : Int) then (salchowref49_Table.l1 kj19 l0 l1 (x5_2.set (x6_1 : Int).toNat ((rd_L7 x5_2 x6_1).set (x7_2 : Int).toNat (rd (rd_L7 x5_2 (ji36)) (wrap64 (x7_2 + 1))))) x6_1 (wrap64 (x7_2 - 1))) else (none)) else (none)) else (none)) else (none)) else (none)) = some r := by first | (rw [hji36] at H; exact H) | (simp only [hji36] at H ⊢; exact H)
                      have hji36w : (IntKind.i64.wrap (x6_1 + 1)) = ji36 := (i64_w _).trans hji36
                      by_cases c37 : 0 ≤ (ji36)
                      ·rw [if_pos c37] at H
                       have c37b0 : decide (0 ≤ (ji36)) = true := decide_eq_true c37
                       clear c37
                       by_cases c38 : (ji36) < (x5_2.length : Int)
                       ·rw [if_pos c38] at H
                        have c38b0 : decide ((ji36) < (x5_2.length : Int)) = true := decide_eq_true c38
                        clear c38
                        obtain ⟨ji39, hji39⟩ : ∃ j_ : Int, (wrap64 (x7_2 + 1)) = j_ := ⟨_, rfl⟩
                        replace H : (if 0 ≤ (ji39) then (if (ji39) < ((rd_L7 x5_2 (ji36)).length : Int) then (if x7_2 < ((rd_L7 x5_2 x6_1).length : Int) then (salchowref49_Table.l1 kj19 l0 l1 (x5_2.set (x6_1 : Int).toNat ((rd_L7 x5_2 x6_1).set (x7_2 : Int).toNat (rd (rd_L7 x5_2 (ji36)) (ji39)))) x6_1 (wrap64 (x7_2 - 1))) else (none)) else (none)) else (none)) = some r := by first | (rw [hji39] at H; exact H) | (simp only [hji39] at H ⊢; exact H)
                        have hji39w : (IntKind.i64.wrap (x7_2 + 1)) = ji39 := (i64_w _).trans hji39
                        by_cases c40 : 0 ≤ (ji39)
                        ·rw [if_pos c40] at H
                         have c40b0 : decide (0 ≤ (ji39)) = true := decide_eq_true c40
                         clear c40
                         by_cases c41 : (ji39) < ((rd_L7 x5_2 (ji36)).length : Int)
                         ·rw [if_pos c41] at H
                          have c41b0 : decide ((ji39) < ((rd_L7 x5_2 (ji36)).length : Int)) = true := decide_eq_true c41
                          clear c41
                          by_cases c42 : x7_2 < ((rd_L7 x5_2 x6_1).length : Int)
                          ·rw [if_pos c42] at H
                           have c42b0 : decide (x7_2 < ((rd_L7 x5_2 x6_1).length : Int)) = true := decide_eq_true c42
                           clear c42
                           obtain ⟨y424, hy424⟩ : ∃ y_ : List Int, y_ = ((rd_L7 x5_2 x6_1).set (x7_2 : Int).toNat (rd (rd_L7 x5_2 (ji36)) (ji39))) := ⟨_, rfl⟩
                           replace H : (salchowref49_Table.l1 kj19 l0 l1 (x5_2.set (x6_1 : Int).toNat y424) x6_1 (wrap64 (x7_2 - 1))) = some r := by first | (rw [hy424]; with_reducible exact H) | (have H2_ := (Option.bind_some _ _).symm.trans H; rw [hy424]; with_reducible exact H2_) | (have H2_ := (Option.bind_some _ _).symm.trans H; with_reducible exact H2_) | with_reducible exact H | (rw [hy424]; exact H) | exact H
                           have Ny424 := Aside0.mk hy424
                           clear hy424
                           obtain ⟨y426, hy426⟩ : ∃ y_ : List (List Int), y_ = (x5_2.set (x6_1 : Int).toNat y424) := ⟨_, rfl⟩
                           replace H : (salchowref49_Table.l1 kj19 l0 l1 y426 x6_1 (wrap64 (x7_2 - 1))) = some r := by first | (rw [hy426]; with_reducible exact H) | (have H2_ := (Option.bind_some _ _).symm.trans H; rw [hy426]; with_reducible exact H2_) | (have H2_ := (Option.bind_some _ _).symm.trans H; with_reducible exact H2_) | with_reducible exact H | (rw [hy426]; exact H) | exact H
                           have Ny426 := Aside0.mk hy426
                           clear hy426
                           have H' := Aside0.mk H
                           clear H
                           try go_wp2
                           have n0_ := Aside0.mk (Kd.S_drew HO_5.out)
                           have n1_ := Aside0.mk (below_drew1 HB.out)
                           clear HO_5
                           clear HB
                           have HO_5 := n0_
                           have HB := n1_
                           clear n0_ n1_
                           have p419 : 0 ≤ (x6_1 : Int) := of_decide_eq_true (by first | (with_reducible assumption) | assumption)
                           have q419 : x6_1 < (l0.length : Int) := of_decide_eq_true (by first | (with_reducible assumption) | assumption)
                           obtain ⟨ad419, e419, hx419_0⟩ := Kd.at_string HR0.out x6_1 p419 q419
                           have hw419_0 := hx419_0
                           cases e419
                           replace hx419_0 := (HB.out.cell (World.block_lt_of_cell? w _ hx419_0)).trans hx419_0
                           replace p419 := eq_true p419
                           replace q419 := eq_true q419
                           have p420 : 0 ≤ (x7_2 : Int) := of_decide_eq_true (by first | (with_reducible assumption) | assumption)
                           have q420 : x7_2 < (l1.length : Int) := of_decide_eq_true (by first | (with_reducible assumption) | assumption)
                           obtain ⟨ad420, e420, hx420_0⟩ := Kd.at_string HR1.out x7_2 p420 q420
                           have hw420_0 := hx420_0
                           cases e420
                           replace hx420_0 := (HB.out.cell (World.block_lt_of_cell? w _ hx420_0)).trans hx420_0
                           replace p420 := eq_true p420
                           replace q420 := eq_true q420
                           refine start_ (n := 10) (S := fun w' => w'.cell? (ad419.add (x6_1).toNat) = some (.string (rdOf ByteArray.empty l0 x6_1)) ∧ w'.cell? (ad420.add (x7_2).toNat) = some (.string (rdOf ByteArray.empty l1 x7_2))) (ds := []) #[false, false, false, false, false, false, false, false, false, false] (by kernel_rfl) rfl rfl ⟨((HB.out.cell (World.block_lt_of_cell? w _ hw419_0)).trans hw419_0), ((HB.out.cell (World.block_lt_of_cell? w _ hw420_0)).trans hw420_0)⟩ (fun hHeld => ?_); refine with_tabW salchowref49_Table.tab12 salchowref49_Table.bits12 (fun HT_ HW_ => ?_)
                           generalize wc.drew = w44 at HO_5 HB hx419_0 hx420_0 hHeld ⊢
                           refine pure_ (i := 0) (N := some 82) (v := ?_) (a' := ?_) #[true, false, false, false, false, false, false, false, false, false] rfl rfl (any_of HT_.out (by kernel_rfl)) (fun _ _ _ h => h) (Or.inl ⟨by rfl, ?_⟩) ?_ ?_
                           rotate_left
                           ·intro w'
                            go_simp
                            with_reducible rfl
                           rotate_left
                           ·simp only [Act.put, sA_, sB_, sC_, i64_w, i32_w]
                            rfl
                           refine pure_ (i := 1) (N := some 83) (v := ?_) (a' := ?_) #[true, true, false, false, false, false, false, false, false, false] rfl rfl (any_of HT_.out (by kernel_rfl)) (fun _ _ _ h => h) (Or.inl ⟨by rfl, ?_⟩) ?_ ?_
                           rotate_left
                           ·intro w'
                            go_simp
                            with_reducible rfl
                           rotate_left
                           ·simp only [Act.put, sA_, sB_, sC_, i64_w, i32_w]
                            rfl
                           refine pure_ (i := 2) (N := some 84) (v := ?_) (a' := ?_) #[true, true, true, false, false, false, false, false, false, false] rfl rfl (any_of HT_.out (by kernel_rfl)) (fun _ _ _ h => h) (Or.inl ⟨by rfl, ?_⟩) ?_ ?_
                           rotate_left
                           ·intro w'
                            go_simp
                            with_reducible rfl
                           rotate_left
                           ·simp only [Act.put, sA_, sB_, sC_, i64_w, i32_w]
                            rfl
                           refine pure_ (i := 4) (N := some 86) (v := ?_) (a' := ?_) #[true, true, true, false, true, false, false, false, false, false] rfl rfl (any_of HT_.out (by kernel_rfl)) (fun _ _ _ h => h) (Or.inl ⟨by rfl, ?_⟩) ?_ ?_
                           rotate_left
                           ·intro w'
                            go_simp
                            with_reducible rfl
                           rotate_left
                           ·simp only [Act.put, sA_, sB_, sC_, i64_w, i32_w]
                            rfl
                           refine pure_ (i := 5) (N := some 87) (v := ?_) (a' := ?_) #[true, true, true, false, true, true, false, false, false, false] rfl rfl (any_of HT_.out (by kernel_rfl)) (fun _ _ _ h => h) (Or.inl ⟨by rfl, ?_⟩) ?_ ?_
                           rotate_left
                           ·intro w'
                            go_simp
                            with_reducible rfl
                           rotate_left
                           ·simp only [Act.put, sA_, sB_, sC_, i64_w, i32_w]
                            rfl
                           refine pure_ (i := 6) (N := some 88) (v := ?_) (a' := ?_) #[true, true, true, false, true, true, true, false, false, false] rfl rfl (any_of HT_.out (by kernel_rfl)) (fun _ _ _ h => h) (Or.inl ⟨by rfl, ?_⟩) ?_ ?_
                           rotate_left
                           ·intro w'
                            go_simp
                            with_reducible rfl
                           rotate_left
                           ·simp only [Act.put, sA_, sB_, sC_, i64_w, i32_w]
                            rfl
                           refine take_ (i := 3) (N := some 85) (v := ?_) (a' := ?_) #[true, true, true, true, true, true, true, false, false, false] rfl rfl (take_ofW HT_.out HW_.out (by kernel_rfl)) (fun _ _ _ h => h) (Or.inl ⟨by rfl, ?_⟩) hHeld ?_ ?_
                           rotate_left
                           ·rintro w' ⟨s0, s1⟩
                            go_simp
                            with_reducible rfl
                           rotate_left
                           ·simp only [Act.put, sA_, sB_, sC_, i64_w, i32_w]
                            rfl
                           refine take_ (i := 7) (N := some 89) (v := ?_) (a' := ?_) #[true, true, true, true, true, true, true, true, false, false] rfl rfl (take_ofW HT_.out HW_.out (by kernel_rfl)) (fun _ _ _ h => h) (Or.inl ⟨by rfl, ?_⟩) hHeld ?_ ?_
                           rotate_left
                           ·rintro w' ⟨s0, s1⟩
                            go_simp
                            with_reducible rfl
                           rotate_left
                           ·simp only [Act.put, sA_, sB_, sC_, i64_w, i32_w]
                            rfl
                           refine pure_ (i := 8) (N := some 90) (v := ?_) (a' := ?_) #[true, true, true, true, true, true, true, true, true, false] rfl rfl (any_of HT_.out (by kernel_rfl)) (fun _ _ _ h => h) (Or.inl ⟨by rfl, ?_⟩) ?_ ?_
                           rotate_left
                           ·intro w'
                            go_simp
                            with_reducible rfl
                           rotate_left
                           ·simp only [Act.put, sA_, sB_, sC_, i64_w, i32_w]
                            rfl
                           refine pure_ (i := 9) (N := some 81) (v := ?_) (a' := ?_) #[true, true, true, true, true, true, true, true, true, true] rfl rfl (any_of HT_.out (by kernel_rfl)) (fun _ _ _ h => h) (Or.inl ⟨by rfl, ?_⟩) ?_ ?_
                           rotate_left
                           ·intro w'
                            go_simp
                            with_reducible rfl
                           rotate_left
                           ·simp only [Act.put, sA_, sB_, sC_, i64_w, i32_w]
                            rfl
                           refine done_ (done_of HT_.out (by kernel_rfl)) ?_
                           try go_wp2
                           have n0_ := Aside0.mk (Kd.S_drew HO_5.out)
                           have n1_ := Aside0.mk (below_drew1 HB.out)
                           clear HO_5
                           clear HB
                           have HO_5 := n0_
                           have HB := n1_
                           clear n0_ n1_
                           have p421 : 0 ≤ (x6_1 : Int) := of_decide_eq_true (by first | (with_reducible assumption) | assumption)
                           have q421 : x6_1 < (x5_2.length : Int) := of_decide_eq_true (by first | (with_reducible assumption) | assumption)
                           obtain ⟨ad421, A421_0, c421_0, e421, hx421_0, hl421_0, hi421_0⟩ := at_L7 (Kd.S_reads' HO_5.out).2.2 x6_1 p421 q421
                           obtain rfl : (⟨go14, 0, none⟩ : Addr) = ad421 := (by injection e421)
                           obtain ⟨ce421, hce421, hMe421, hcc421⟩ := Kd.S_get HO_5.out [] x6_1 p421 (by first | exact q421 | exact of_decide_eq_true (by first | (with_reducible assumption) | assumption) | (have e_ := (Kd.S_reads' HO_5.out).1; omega))
                           obtain ⟨ve421_0, rfl, ge421_0⟩ := hMe421
                           have hv421_0 := hcc421 0 _ rfl
                           rw [Nat.add_zero, show ((Kd.slice 3 (Kd.int .i64))).sz = 1 from rfl, Nat.mul_one] at hv421_0
                           replace hv421_0 := Option.some.inj (hv421_0.symm.trans hx421_0)
                           rw [hv421_0] at ge421_0
                           have HL421_0 := Aside0.mk (show Kd.R (Kd.int .i64) 3 _ _ _ _ (rd_L7 x5_2 x6_1) from ge421_0)
                           clear hv421_0 ge421_0
                           have HX421_0 := Aside0.mk hx421_0
                           clear hcc421 hce421
                           (first | simp only [add_plain] at hx421_0 | simp only [add_at] at hx421_0 | simp only [Addr.add, Nat.zero_add] at hx421_0 | skip)
                           have HR421_0 := Aside0.mk hi421_0
                           have HC421_0 := Aside0.mk hl421_0
                           clear hi421_0 hl421_0
                           replace p421 := eq_true p421
                           replace q421 := eq_true q421
                           have p422 : 0 ≤ ((ji36) : Int) := of_decide_eq_true (by first | (with_reducible assumption) | assumption)
                           have q422 : (ji36) < (x5_2.length : Int) := of_decide_eq_true (by first | (with_reducible assumption) | assumption)
                           obtain ⟨ad422, A422_0, c422_0, e422, hx422_0, hl422_0, hi422_0⟩ := at_L7 (Kd.S_reads' HO_5.out).2.2 (ji36) p422 q422
                           obtain rfl : (⟨go14, 0, none⟩ : Addr) = ad422 := (by injection e422)
                           obtain ⟨ce422, hce422, hMe422, hcc422⟩ := Kd.S_get HO_5.out [] (ji36) p422 (by first | exact q422 | exact of_decide_eq_true (by first | (with_reducible assumption) | assumption) | (have e_ := (Kd.S_reads' HO_5.out).1; omega))
                           obtain ⟨ve422_0, rfl, ge422_0⟩ := hMe422
                           have hv422_0 := hcc422 0 _ rfl
                           rw [Nat.add_zero, show ((Kd.slice 3 (Kd.int .i64))).sz = 1 from rfl, Nat.mul_one] at hv422_0
                           replace hv422_0 := Option.some.inj (hv422_0.symm.trans hx422_0)
                           rw [hv422_0] at ge422_0
                           have HL422_0 := Aside0.mk (show Kd.R (Kd.int .i64) 3 _ _ _ _ (rd_L7 x5_2 (ji36)) from ge422_0)
                           clear hv422_0 ge422_0
                           have HX422_0 := Aside0.mk hx422_0
                           clear hcc422 hce422
                           (first | simp only [add_plain] at hx422_0 | simp only [add_at] at hx422_0 | simp only [Addr.add, Nat.zero_add] at hx422_0 | skip)
                           have HR422_0 := Aside0.mk hi422_0
                           have HC422_0 := Aside0.mk hl422_0
                           clear hi422_0 hl422_0
                           replace p422 := eq_true p422
                           replace q422 := eq_true q422
                           have p423 : 0 ≤ ((ji39) : Int) := of_decide_eq_true (by first | (with_reducible assumption) | assumption)
                           have q423 : (ji39) < ((rd_L7 x5_2 (ji36)).length : Int) := of_decide_eq_true (by first | (with_reducible assumption) | assumption)
                           obtain ⟨ad423, e423, hx423_0⟩ := Kd.at_int (by repeat (first | (with_reducible exact HR422_0.out) | (with_reducible refine Kd.C_alloc ?_ _) | (with_reducible refine Kd.C_drewN ?_ _) | (with_reducible refine Kd.C_drew ?_) | exact HR422_0.out)) (ji39) p423 q423
                           cases e423
                           replace p423 := eq_true p423
                           replace q423 := eq_true q423
                           have p43 : 0 ≤ (x7_2 : Int) := of_decide_eq_true (by first | (with_reducible assumption) | assumption)
                           have q43 : (x7_2 : Int) < (((rd_L7 x5_2 x6_1).length : Int) : Int) := of_decide_eq_true (by first | (with_reducible assumption) | assumption)
                           obtain ⟨go43, co43, eo43, gb43, gl43, cl43, HG43⟩ := Kd.R_form HL421_0.out (by omega)
                           (first | cases eo43 | (injection eo43 with ea_ en_ ec_; (first | subst ea_ | (injection ea_ with ea_; subst ea_)); subst ec_; clear en_))
                           have GB43 := Aside0.mk gb43
                           have GG43 := Aside0.mk HG43
                           clear gb43 gl43 HG43
                           obtain ⟨hx43_0, hf43_0⟩ := Kd.R_celln 0 HL421_0.out (x7_2 : Int) p43 q43
                           replace p43 := eq_true p43
                           replace q43 := eq_true q43
                           have hq46 : (x6_1 : Int) < (x5_2.length : Int) := (by have h_ : (x6_1 : Int) < ((x5_2.length : Int) : Int) := of_decide_eq_true (by first | (with_reducible assumption) | assumption); first | exact h_ | (have e_ := (Kd.S_reads' HO_5.out).1; omega) | simpa only [List.length_set, List.length_set] using h_)
                           obtain ⟨oki46, ce46, hcl46, hM46, hcc46, hok46, hbk46⟩ := Kd.S_borrow HO_5.out [] (x6_1 : Int) (of_decide_eq_true (by first | (with_reducible assumption) | assumption)) hq46
                           obtain ⟨ve46_0, rfl, ge46_0⟩ := hM46
                           have hv46 := hcc46 0 _ rfl
                           rw [Nat.add_zero, show ((Kd.slice 3 (Kd.int .i64))).sz = 1 from rfl, Nat.mul_one] at hv46
                           replace hv46 := Option.some.inj (hv46.symm.trans HX421_0.out)
                           subst hv46
                           clear hcc46 hcl46
                           replace ge46_0 := (show Kd.R (Kd.int .i64) 3 _ _ _ _ (rd_L7 x5_2 x6_1) from ge46_0)
                           have HP46 := Kd.R_putg ge46_0 (x7_2 : Int) (rd (rd_L7 x5_2 (ji36)) (ji39))
                           rw [← Ny424.out] at HP46
                           have HS46 := hbk46 HP46.2 (fun k_ e_ => by injection e_ with e_; subst e_; exact ge46_0.1 _ rfl) (x' := y424) (Kd.M_row HP46.1)
                           rw [← Ny426.out] at HS46
                           have HQ46 := Aside0.mk HS46
                           clear HP46 HS46 hbk46 hok46
                           refine start_ (n := 16) (S := fun w' => w'.cell? ⟨go14, (x6_1).toNat, none⟩ = some (.slice (some ⟨go43, 0, none⟩) (rd_L7 x5_2 x6_1).length c421_0) ∧ w'.cell? ⟨go14, ((ji36)).toNat, none⟩ = some (.slice (some ad423) (rd_L7 x5_2 (ji36)).length c422_0) ∧ w'.cell? (ad423.add ((ji39)).toNat) = some (.int .i64 (rd (rd_L7 x5_2 (ji36)) (ji39)))) (ds := [15]) #[false, false, false, false, false, false, false, false, false, false, false, false, false, false, false, false] (by kernel_rfl) rfl rfl ⟨hx421_0, hx422_0, hx423_0⟩ (fun hHeld => ?_); refine with_tabW salchowref49_Table.tab13 salchowref49_Table.bits13 (fun HT_ HW_ => ?_)
                           generalize w44.drew = w45 at HO_5 HB GG43 HL421_0 HL422_0 HQ46 HR421_0 HR422_0 HX421_0 HX422_0 hf43_0 hx421_0 hx422_0 hx423_0 hx43_0 hHeld ⊢
                           refine pure_ (i := 0) (N := some 91) (v := ?_) (a' := ?_) #[true, false, false, false, false, false, false, false, false, false, false, false, false, false, false, false] rfl rfl (any_of HT_.out (by kernel_rfl)) (fun _ _ _ h => h) (Or.inl ⟨by rfl, ?_⟩) ?_ ?_
                           rotate_left
                           ·intro w'
                            go_simp
                            with_reducible rfl
                           rotate_left
                           ·simp only [Act.put, sA_, sB_, sC_, i64_w, i32_w]
                            rfl
                           refine pure_ (i := 1) (N := some 92) (v := ?_) (a' := ?_) #[true, true, false, false, false, false, false, false, false, false, false, false, false, false, false, false] rfl rfl (any_of HT_.out (by kernel_rfl)) (fun _ _ _ h => h) (Or.inl ⟨by rfl, ?_⟩) ?_ ?_
                           rotate_left
                           ·intro w'
                            go_simp
                            with_reducible rfl
                           rotate_left
                           ·simp only [Act.put, sA_, sB_, sC_, i64_w, i32_w]
                            rfl
                           refine pure_ (i := 2) (N := some 93) (v := ?_) (a' := ?_) #[true, true, true, false, false, false, false, false, false, false, false, false, false, false, false, false] rfl rfl (any_of HT_.out (by kernel_rfl)) (fun _ _ _ h => h) (Or.inl ⟨by rfl, ?_⟩) ?_ ?_
                           rotate_left
                           ·intro w'
                            go_simp
                            with_reducible rfl
                           rotate_left
                           ·simp only [Act.put, sA_, sB_, sC_, i64_w, i32_w]
                            rfl
                           refine pure_ (i := 4) (N := some 95) (v := ?_) (a' := ?_) #[true, true, true, false, true, false, false, false, false, false, false, false, false, false, false, false] rfl rfl (any_of HT_.out (by kernel_rfl)) (fun _ _ _ h => h) (Or.inl ⟨by rfl, ?_⟩) ?_ ?_
                           rotate_left
                           ·intro w'
                            go_simp
                            with_reducible rfl
                           rotate_left
                           ·simp only [Act.put, sA_, sB_, sC_, i64_w, i32_w]
                            rfl
                           refine pure_ (i := 5) (N := some 96) (v := ?_) (a' := ?_) #[true, true, true, false, true, true, false, false, false, false, false, false, false, false, false, false] rfl rfl (any_of HT_.out (by kernel_rfl)) (fun _ _ _ h => h) (Or.inl ⟨by rfl, ?_⟩) ?_ ?_
                           rotate_left
                           ·intro w'
                            go_simp
                            with_reducible rfl
                           rotate_left
                           ·simp only [Act.put, sA_, sB_, sC_, i64_w, i32_w]
                            rfl
                           refine pure_ (i := 6) (N := some 97) (v := ?_) (a' := ?_) #[true, true, true, false, true, true, true, false, false, false, false, false, false, false, false, false] rfl rfl (any_of HT_.out (by kernel_rfl)) (fun _ _ _ h => h) (Or.inl ⟨by rfl, ?_⟩) ?_ ?_
                           rotate_left
                           ·intro w'
                            go_simp
                            with_reducible rfl
                           rotate_left
                           ·simp only [Act.put, sA_, sB_, sC_, i64_w, i32_w]
                            rfl
                           refine pure_ (i := 7) (N := some 98) (v := ?_) (a' := ?_) #[true, true, true, false, true, true, true, true, false, false, false, false, false, false, false, false] rfl rfl (any_of HT_.out (by kernel_rfl)) (fun _ _ _ h => h) (Or.inl ⟨by rfl, ?_⟩) ?_ ?_
                           rotate_left
                           ·intro w'
                            go_simp
                            with_reducible rfl
                           rotate_left
                           ·simp only [Act.put, sA_, sB_, sC_, i64_w, i32_w]
                            rfl
                           refine pure_ (i := 8) (N := some 99) (v := ?_) (a' := ?_) #[true, true, true, false, true, true, true, true, true, false, false, false, false, false, false, false] rfl rfl (any_of HT_.out (by kernel_rfl)) (fun _ _ _ h => h) (Or.inl ⟨by rfl, ?_⟩) ?_ ?_
                           rotate_left
                           ·intro w'
                            go_simp
                            with_reducible rfl
                           rotate_left
                           ·simp only [Act.put, sA_, sB_, sC_, i64_w, i32_w]
                            rfl
                           refine pure_ (i := 10) (N := some 101) (v := ?_) (a' := ?_) #[true, true, true, false, true, true, true, true, true, false, true, false, false, false, false, false] rfl rfl (any_of HT_.out (by kernel_rfl)) (fun _ _ _ h => h) (Or.inl ⟨by rfl, ?_⟩) ?_ ?_
                           rotate_left
                           ·intro w'
                            go_simp
                            with_reducible rfl
                           rotate_left
                           ·simp only [Act.put, sA_, sB_, sC_, i64_w, i32_w]
                            rfl
                           refine pure_ (i := 11) (N := some 102) (v := ?_) (a' := ?_) #[true, true, true, false, true, true, true, true, true, false, true, true, false, false, false, false] rfl rfl (any_of HT_.out (by kernel_rfl)) (fun _ _ _ h => h) (Or.inl ⟨by rfl, ?_⟩) ?_ ?_
                           rotate_left
                           ·intro w'
                            go_simp
                            with_reducible rfl
                           rotate_left
                           ·simp only [Act.put, sA_, sB_, sC_, i64_w, i32_w]
                            rfl
                           refine take_ (i := 3) (N := some 94) (v := ?_) (a' := ?_) #[true, true, true, true, true, true, true, true, true, false, true, true, false, false, false, false] rfl rfl (take_ofW HT_.out HW_.out (by kernel_rfl)) (fun _ _ _ h => h) (Or.inl ⟨by rfl, ?_⟩) hHeld ?_ ?_
                           rotate_left
                           ·rintro w' ⟨s0, s1, s2⟩
                            go_simp
                            with_reducible rfl
                           rotate_left
                           ·simp only [Act.put, sA_, sB_, sC_, i64_w, i32_w]
                            rfl
                           refine take_ (i := 9) (N := some 100) (v := ?_) (a' := ?_) #[true, true, true, true, true, true, true, true, true, true, true, true, false, false, false, false] rfl rfl (take_ofW HT_.out HW_.out (by kernel_rfl)) (fun _ _ _ h => h) (Or.inl ⟨by rfl, ?_⟩) hHeld ?_ ?_
                           rotate_left
                           ·rintro w' ⟨s0, s1, s2⟩
                            go_simp
                            with_reducible rfl
                           rotate_left
                           ·simp only [Act.put, sA_, sB_, sC_, i64_w, i32_w]
                            rfl
                           refine pure_ (i := 12) (N := some 103) (v := ?_) (a' := ?_) #[true, true, true, true, true, true, true, true, true, true, true, true, true, false, false, false] rfl rfl (any_of HT_.out (by kernel_rfl)) (fun _ _ _ h => h) (Or.inl ⟨by rfl, ?_⟩) ?_ ?_
                           rotate_left
                           ·intro w'
                            go_simp
                            with_reducible rfl
                           rotate_left
                           ·simp only [Act.put, sA_, sB_, sC_, i64_w, i32_w]
                            rfl
                           refine take_ (i := 13) (N := some 104) (v := ?_) (a' := ?_) #[true, true, true, true, true, true, true, true, true, true, true, true, true, true, false, false] rfl rfl (take_ofW HT_.out HW_.out (by kernel_rfl)) (fun _ _ _ h => h) (Or.inl ⟨by rfl, ?_⟩) hHeld ?_ ?_
                           rotate_left
                           ·rintro w' ⟨s0, s1, s2⟩
                            go_simp
                            with_reducible rfl
                           rotate_left
                           ·simp only [Act.put, sA_, sB_, sC_, i64_w, i32_w]
                            rfl
                           refine pure_ (i := 14) (N := some 105) (v := ?_) (a' := ?_) #[true, true, true, true, true, true, true, true, true, true, true, true, true, true, true, false] rfl rfl (any_of HT_.out (by kernel_rfl)) (fun _ _ _ h => h) (Or.inl ⟨by rfl, ?_⟩) ?_ ?_
                           rotate_left
                           ·intro w'
                            go_simp
                            with_reducible rfl
                           rotate_left
                           ·simp only [Act.put, sA_, sB_, sC_, i64_w, i32_w]
                            rfl
                           refine last_ (i := 15) (N := none) #[true, true, true, true, true, true, true, true, true, true, true, true, true, true, true, true] rfl rfl (one_of HT_.out (by kernel_rfl)) (by decide) (fun K hK => ?_)
                           refine skip_ (w1 := ?_) (by rfl) rfl ?_ ?_
                           rotate_left
                           ·go_simp
                            rfl
                           refine hK.out _ _ ?_
                           clear hK K
                           refine done_ (done_of HT_.out (by kernel_rfl)) ?_
                           try go_wp2
                           (try simp only [← hl5_2])
                           go_roundg kj19
                           case measure => have := HK1.out; have := HK2.out; have := HJ19.out; omega
                           case rel => exact ⟨(y426), (wrap64 (x7_2 - 1)), (by first | rfl | (simp; done) | (simp [*]; done)), H', ⟨by have := HK1.out; have := HK2.out; have := HJ19.out; omega⟩, ⟨by (try simp only [hl5_2]); (with_reducible repeat (first | apply Kd.S_alloc | apply Kd.S_drewN | apply Kd.S_drew)); exact HQ46.out⟩, ⟨by repeat (first | (with_reducible first | exact HB.out | apply below_alloc | apply pw_below_drewN | apply below_drew1 | refine below_set ?_ GB43.out) | exact HB.out)⟩⟩
                          ·rw [if_neg c42] at H
                           exact absurd H (by simp)
                         ·rw [if_neg c41] at H
                          exact absurd H (by simp)
                        ·rw [if_neg c40] at H
                         exact absurd H (by simp)
                       ·rw [if_neg c38] at H
                        exact absurd H (by simp)
                      ·rw [if_neg c37] at H
                       exact absurd H (by simp)
                     ·rw [if_neg c35] at H
                      exact absurd H (by simp)
                    ·rw [if_neg c34] at H
                     have c34b0 : ((rdOf ByteArray.empty l0 x6_1).toList == (rdOf ByteArray.empty l1 x7_2).toList) = false := beq_eq_false_iff_ne.mpr c34
                     have c34b1 : ((rdOf ByteArray.empty l0 x6_1).toList != (rdOf ByteArray.empty l1 x7_2).toList) = true := bne_iff_ne.mpr c34
                     by_cases c48 : x6_1 < (x5_2.length : Int)
                     ·rw [if_pos c48] at H
                      have c48b0 : decide (x6_1 < (x5_2.length : Int)) = true := decide_eq_true c48
                      clear c48
                      obtain ⟨ji49, hji49⟩ : ∃ j_ : Int, (wrap64 (x6_1 + 1)) = j_ := ⟨_, rfl⟩
                      replace H : (if 0 ≤ (ji49) then (if (ji49) < (x5_2.length : Int) then (if x7_2 < ((rd_L7 x5_2 (ji49)).length : Int) then (if 0 ≤ (wrap64 (x7_2 + 1)) then (if (wrap64 (x7_2 + 1)) < ((rd_L7 x5_2 x6_1).length : Int) then (if x7_2 < ((rd_L7 x5_2 x6_1).length : Int) then (salchowref49_Table.l1 kj19 l0 l1 (x5_2.set (x6_1 : Int).toNat ((rd_L7 x5_2 x6_1).set (x7_2 : Int).toNat (wrap64 (1 + (mn (rd (rd_L7 x5_2 (ji49)) x7_2) (rd (rd_L7 x5_2 x6_1) (wrap64 (x7_2 + 1)))))))) x6_1 (wrap64 (x7_2 - 1))) else (none)) else (none)) else (none)) else (none)) else (none)) else (none)) = some r := by first | (rw [hji49] at H; exact H) | (simp only [hji49] at H ⊢; exact H)
                      have hji49w : (IntKind.i64.wrap (x6_1 + 1)) = ji49 := (i64_w _).trans hji49
                      by_cases c50 : 0 ≤ (ji49)
                      ·rw [if_pos c50] at H
                       have c50b0 : decide (0 ≤ (ji49)) = true := decide_eq_true c50
                       clear c50
                       by_cases c51 : (ji49) < (x5_2.length : Int)
                       ·rw [if_pos c51] at H
                        have c51b0 : decide ((ji49) < (x5_2.length : Int)) = true := decide_eq_true c51
                        clear c51
                        by_cases c52 : x7_2 < ((rd_L7 x5_2 (ji49)).length : Int)
                        ·rw [if_pos c52] at H
                         have c52b0 : decide (x7_2 < ((rd_L7 x5_2 (ji49)).length : Int)) = true := decide_eq_true c52
                         clear c52
                         obtain ⟨ji53, hji53⟩ : ∃ j_ : Int, (wrap64 (x7_2 + 1)) = j_ := ⟨_, rfl⟩
                         replace H : (if 0 ≤ (ji53) then (if (ji53) < ((rd_L7 x5_2 x6_1).length : Int) then (if x7_2 < ((rd_L7 x5_2 x6_1).length : Int) then (salchowref49_Table.l1 kj19 l0 l1 (x5_2.set (x6_1 : Int).toNat ((rd_L7 x5_2 x6_1).set (x7_2 : Int).toNat (wrap64 (1 + (mn (rd (rd_L7 x5_2 (ji49)) x7_2) (rd (rd_L7 x5_2 x6_1) (ji53))))))) x6_1 (wrap64 (x7_2 - 1))) else (none)) else (none)) else (none)) = some r := by first | (rw [hji53] at H; exact H) | (simp only [hji53] at H ⊢; exact H)
                         have hji53w : (IntKind.i64.wrap (x7_2 + 1)) = ji53 := (i64_w _).trans hji53
                         by_cases c54 : 0 ≤ (ji53)
                         ·rw [if_pos c54] at H
                          have c54b0 : decide (0 ≤ (ji53)) = true := decide_eq_true c54
                          clear c54
                          by_cases c55 : (ji53) < ((rd_L7 x5_2 x6_1).length : Int)
                          ·rw [if_pos c55] at H
                           have c55b0 : decide ((ji53) < ((rd_L7 x5_2 x6_1).length : Int)) = true := decide_eq_true c55
                           clear c55
                           obtain ⟨ji56, hji56⟩ : ∃ j_ : Int, (mn (rd (rd_L7 x5_2 (ji49)) x7_2) (rd (rd_L7 x5_2 x6_1) (ji53))) = j_ := ⟨_, rfl⟩
                           replace H : (if x7_2 < ((rd_L7 x5_2 x6_1).length : Int) then (salchowref49_Table.l1 kj19 l0 l1 (x5_2.set (x6_1 : Int).toNat ((rd_L7 x5_2 x6_1).set (x7_2 : Int).toNat (wrap64 (1 + (ji56))))) x6_1 (wrap64 (x7_2 - 1))) else (none)) = some r := by first | (rw [hji56] at H; exact H) | (simp only [hji56] at H ⊢; exact H)
                           have hji56_ : (if (rd (rd_L7 x5_2 x6_1) (ji53)) < (rd (rd_L7 x5_2 (ji49)) x7_2) then (rd (rd_L7 x5_2 x6_1) (ji53)) else (rd (rd_L7 x5_2 (ji49)) x7_2)) = ji56 := hji56
                           by_cases c57 : x7_2 < ((rd_L7 x5_2 x6_1).length : Int)
                           ·rw [if_pos c57] at H
                            have c57b0 : decide (x7_2 < ((rd_L7 x5_2 x6_1).length : Int)) = true := decide_eq_true c57
                            clear c57
                            obtain ⟨y432, hy432⟩ : ∃ y_ : List Int, y_ = ((rd_L7 x5_2 x6_1).set (x7_2 : Int).toNat (wrap64 (1 + (ji56)))) := ⟨_, rfl⟩
                            replace H : (salchowref49_Table.l1 kj19 l0 l1 (x5_2.set (x6_1 : Int).toNat y432) x6_1 (wrap64 (x7_2 - 1))) = some r := by first | (rw [hy432]; with_reducible exact H) | (have H2_ := (Option.bind_some _ _).symm.trans H; rw [hy432]; with_reducible exact H2_) | (have H2_ := (Option.bind_some _ _).symm.trans H; with_reducible exact H2_) | with_reducible exact H | (rw [hy432]; exact H) | exact H
                            have Ny432 := Aside0.mk hy432
                            clear hy432
                            obtain ⟨y434, hy434⟩ : ∃ y_ : List (List Int), y_ = (x5_2.set (x6_1 : Int).toNat y432) := ⟨_, rfl⟩
                            replace H : (salchowref49_Table.l1 kj19 l0 l1 y434 x6_1 (wrap64 (x7_2 - 1))) = some r := by first | (rw [hy434]; with_reducible exact H) | (have H2_ := (Option.bind_some _ _).symm.trans H; rw [hy434]; with_reducible exact H2_) | (have H2_ := (Option.bind_some _ _).symm.trans H; with_reducible exact H2_) | with_reducible exact H | (rw [hy434]; exact H) | exact H
                            have Ny434 := Aside0.mk hy434
                            clear hy434
                            have H' := Aside0.mk H
                            clear H
                            try go_wp2
                            have n0_ := Aside0.mk (Kd.S_drew HO_5.out)
                            have n1_ := Aside0.mk (below_drew1 HB.out)
                            clear HO_5
                            clear HB
                            have HO_5 := n0_
                            have HB := n1_
                            clear n0_ n1_
                            have p419 : 0 ≤ (x6_1 : Int) := of_decide_eq_true (by first | (with_reducible assumption) | assumption)
                            have q419 : x6_1 < (l0.length : Int) := of_decide_eq_true (by first | (with_reducible assumption) | assumption)
                            obtain ⟨ad419, e419, hx419_0⟩ := Kd.at_string HR0.out x6_1 p419 q419
                            have hw419_0 := hx419_0
                            cases e419
                            replace hx419_0 := (HB.out.cell (World.block_lt_of_cell? w _ hx419_0)).trans hx419_0
                            replace p419 := eq_true p419
                            replace q419 := eq_true q419
                            have p420 : 0 ≤ (x7_2 : Int) := of_decide_eq_true (by first | (with_reducible assumption) | assumption)
                            have q420 : x7_2 < (l1.length : Int) := of_decide_eq_true (by first | (with_reducible assumption) | assumption)
                            obtain ⟨ad420, e420, hx420_0⟩ := Kd.at_string HR1.out x7_2 p420 q420
                            have hw420_0 := hx420_0
                            cases e420
                            replace hx420_0 := (HB.out.cell (World.block_lt_of_cell? w _ hx420_0)).trans hx420_0
                            replace p420 := eq_true p420
                            replace q420 := eq_true q420
                            refine start_ (n := 10) (S := fun w' => w'.cell? (ad419.add (x6_1).toNat) = some (.string (rdOf ByteArray.empty l0 x6_1)) ∧ w'.cell? (ad420.add (x7_2).toNat) = some (.string (rdOf ByteArray.empty l1 x7_2))) (ds := []) #[false, false, false, false, false, false, false, false, false, false] (by kernel_rfl) rfl rfl ⟨((HB.out.cell (World.block_lt_of_cell? w _ hw419_0)).trans hw419_0), ((HB.out.cell (World.block_lt_of_cell? w _ hw420_0)).trans hw420_0)⟩ (fun hHeld => ?_); refine with_tabW salchowref49_Table.tab12 salchowref49_Table.bits12 (fun HT_ HW_ => ?_)
                            generalize wc.drew = w59 at HO_5 HB hx419_0 hx420_0 hHeld ⊢
                            refine pure_ (i := 0) (N := some 82) (v := ?_) (a' := ?_) #[true, false, false, false, false, false, false, false, false, false] rfl rfl (any_of HT_.out (by kernel_rfl)) (fun _ _ _ h => h) (Or.inl ⟨by rfl, ?_⟩) ?_ ?_
                            rotate_left
                            ·intro w'
                             go_simp
                             with_reducible rfl
                            rotate_left
                            ·simp only [Act.put, sA_, sB_, sC_, i64_w, i32_w]
                             rfl
                            refine pure_ (i := 1) (N := some 83) (v := ?_) (a' := ?_) #[true, true, false, false, false, false, false, false, false, false] rfl rfl (any_of HT_.out (by kernel_rfl)) (fun _ _ _ h => h) (Or.inl ⟨by rfl, ?_⟩) ?_ ?_
                            rotate_left
                            ·intro w'
                             go_simp
                             with_reducible rfl
                            rotate_left
                            ·simp only [Act.put, sA_, sB_, sC_, i64_w, i32_w]
                             rfl
                            refine pure_ (i := 2) (N := some 84) (v := ?_) (a' := ?_) #[true, true, true, false, false, false, false, false, false, false] rfl rfl (any_of HT_.out (by kernel_rfl)) (fun _ _ _ h => h) (Or.inl ⟨by rfl, ?_⟩) ?_ ?_
                            rotate_left
                            ·intro w'
                             go_simp
                             with_reducible rfl
                            rotate_left
                            ·simp only [Act.put, sA_, sB_, sC_, i64_w, i32_w]
                             rfl
                            refine pure_ (i := 4) (N := some 86) (v := ?_) (a' := ?_) #[true, true, true, false, true, false, false, false, false, false] rfl rfl (any_of HT_.out (by kernel_rfl)) (fun _ _ _ h => h) (Or.inl ⟨by rfl, ?_⟩) ?_ ?_
                            rotate_left
                            ·intro w'
                             go_simp
                             with_reducible rfl
                            rotate_left
                            ·simp only [Act.put, sA_, sB_, sC_, i64_w, i32_w]
                             rfl
                            refine pure_ (i := 5) (N := some 87) (v := ?_) (a' := ?_) #[true, true, true, false, true, true, false, false, false, false] rfl rfl (any_of HT_.out (by kernel_rfl)) (fun _ _ _ h => h) (Or.inl ⟨by rfl, ?_⟩) ?_ ?_
                            rotate_left
                            ·intro w'
                             go_simp
                             with_reducible rfl
                            rotate_left
                            ·simp only [Act.put, sA_, sB_, sC_, i64_w, i32_w]
                             rfl
                            refine pure_ (i := 6) (N := some 88) (v := ?_) (a' := ?_) #[true, true, true, false, true, true, true, false, false, false] rfl rfl (any_of HT_.out (by kernel_rfl)) (fun _ _ _ h => h) (Or.inl ⟨by rfl, ?_⟩) ?_ ?_
                            rotate_left
                            ·intro w'
                             go_simp
                             with_reducible rfl
                            rotate_left
                            ·simp only [Act.put, sA_, sB_, sC_, i64_w, i32_w]
                             rfl
                            refine take_ (i := 3) (N := some 85) (v := ?_) (a' := ?_) #[true, true, true, true, true, true, true, false, false, false] rfl rfl (take_ofW HT_.out HW_.out (by kernel_rfl)) (fun _ _ _ h => h) (Or.inl ⟨by rfl, ?_⟩) hHeld ?_ ?_
                            rotate_left
                            ·rintro w' ⟨s0, s1⟩
                             go_simp
                             with_reducible rfl
                            rotate_left
                            ·simp only [Act.put, sA_, sB_, sC_, i64_w, i32_w]
                             rfl
                            refine take_ (i := 7) (N := some 89) (v := ?_) (a' := ?_) #[true, true, true, true, true, true, true, true, false, false] rfl rfl (take_ofW HT_.out HW_.out (by kernel_rfl)) (fun _ _ _ h => h) (Or.inl ⟨by rfl, ?_⟩) hHeld ?_ ?_
                            rotate_left
                            ·rintro w' ⟨s0, s1⟩
                             go_simp
                             with_reducible rfl
                            rotate_left
                            ·simp only [Act.put, sA_, sB_, sC_, i64_w, i32_w]
                             rfl
                            refine pure_ (i := 8) (N := some 90) (v := ?_) (a' := ?_) #[true, true, true, true, true, true, true, true, true, false] rfl rfl (any_of HT_.out (by kernel_rfl)) (fun _ _ _ h => h) (Or.inl ⟨by rfl, ?_⟩) ?_ ?_
                            rotate_left
                            ·intro w'
                             go_simp
                             with_reducible rfl
                            rotate_left
                            ·simp only [Act.put, sA_, sB_, sC_, i64_w, i32_w]
                             rfl
                            refine pure_ (i := 9) (N := some 81) (v := ?_) (a' := ?_) #[true, true, true, true, true, true, true, true, true, true] rfl rfl (any_of HT_.out (by kernel_rfl)) (fun _ _ _ h => h) (Or.inl ⟨by rfl, ?_⟩) ?_ ?_
                            rotate_left
                            ·intro w'
                             go_simp
                             with_reducible rfl
                            rotate_left
                            ·simp only [Act.put, sA_, sB_, sC_, i64_w, i32_w]
                             rfl
                            refine done_ (done_of HT_.out (by kernel_rfl)) ?_
                            try go_wp2
                            have n0_ := Aside0.mk (Kd.S_drew HO_5.out)
                            have n1_ := Aside0.mk (below_drew1 HB.out)
                            clear HO_5
                            clear HB
                            have HO_5 := n0_
                            have HB := n1_
                            clear n0_ n1_
                            have p427 : 0 ≤ (x6_1 : Int) := of_decide_eq_true (by first | (with_reducible assumption) | assumption)
                            have q427 : x6_1 < (x5_2.length : Int) := of_decide_eq_true (by first | (with_reducible assumption) | assumption)
                            obtain ⟨ad427, A427_0, c427_0, e427, hx427_0, hl427_0, hi427_0⟩ := at_L7 (Kd.S_reads' HO_5.out).2.2 x6_1 p427 q427
                            obtain rfl : (⟨go14, 0, none⟩ : Addr) = ad427 := (by injection e427)
                            obtain ⟨ce427, hce427, hMe427, hcc427⟩ := Kd.S_get HO_5.out [] x6_1 p427 (by first | exact q427 | exact of_decide_eq_true (by first | (with_reducible assumption) | assumption) | (have e_ := (Kd.S_reads' HO_5.out).1; omega))
                            obtain ⟨ve427_0, rfl, ge427_0⟩ := hMe427
                            have hv427_0 := hcc427 0 _ rfl
                            rw [Nat.add_zero, show ((Kd.slice 3 (Kd.int .i64))).sz = 1 from rfl, Nat.mul_one] at hv427_0
                            replace hv427_0 := Option.some.inj (hv427_0.symm.trans hx427_0)
                            rw [hv427_0] at ge427_0
                            have HL427_0 := Aside0.mk (show Kd.R (Kd.int .i64) 3 _ _ _ _ (rd_L7 x5_2 x6_1) from ge427_0)
                            clear hv427_0 ge427_0
                            have HX427_0 := Aside0.mk hx427_0
                            clear hcc427 hce427
                            (first | simp only [add_plain] at hx427_0 | simp only [add_at] at hx427_0 | simp only [Addr.add, Nat.zero_add] at hx427_0 | skip)
                            have HR427_0 := Aside0.mk hi427_0
                            have HC427_0 := Aside0.mk hl427_0
                            clear hi427_0 hl427_0
                            replace p427 := eq_true p427
                            replace q427 := eq_true q427
                            have p428 : 0 ≤ ((ji49) : Int) := of_decide_eq_true (by first | (with_reducible assumption) | assumption)
                            have q428 : (ji49) < (x5_2.length : Int) := of_decide_eq_true (by first | (with_reducible assumption) | assumption)
                            obtain ⟨ad428, A428_0, c428_0, e428, hx428_0, hl428_0, hi428_0⟩ := at_L7 (Kd.S_reads' HO_5.out).2.2 (ji49) p428 q428
                            obtain rfl : (⟨go14, 0, none⟩ : Addr) = ad428 := (by injection e428)
                            obtain ⟨ce428, hce428, hMe428, hcc428⟩ := Kd.S_get HO_5.out [] (ji49) p428 (by first | exact q428 | exact of_decide_eq_true (by first | (with_reducible assumption) | assumption) | (have e_ := (Kd.S_reads' HO_5.out).1; omega))
                            obtain ⟨ve428_0, rfl, ge428_0⟩ := hMe428
                            have hv428_0 := hcc428 0 _ rfl
                            rw [Nat.add_zero, show ((Kd.slice 3 (Kd.int .i64))).sz = 1 from rfl, Nat.mul_one] at hv428_0
                            replace hv428_0 := Option.some.inj (hv428_0.symm.trans hx428_0)
                            rw [hv428_0] at ge428_0
                            have HL428_0 := Aside0.mk (show Kd.R (Kd.int .i64) 3 _ _ _ _ (rd_L7 x5_2 (ji49)) from ge428_0)
                            clear hv428_0 ge428_0
                            have HX428_0 := Aside0.mk hx428_0
                            clear hcc428 hce428
                            (first | simp only [add_plain] at hx428_0 | simp only [add_at] at hx428_0 | simp only [Addr.add, Nat.zero_add] at hx428_0 | skip)
                            have HR428_0 := Aside0.mk hi428_0
                            have HC428_0 := Aside0.mk hl428_0
                            clear hi428_0 hl428_0
                            replace p428 := eq_true p428
                            replace q428 := eq_true q428
                            have p429 : 0 ≤ (x7_2 : Int) := of_decide_eq_true (by first | (with_reducible assumption) | assumption)
                            have q429 : x7_2 < ((rd_L7 x5_2 (ji49)).length : Int) := of_decide_eq_true (by first | (with_reducible assumption) | assumption)
                            obtain ⟨ad429, e429, hx429_0⟩ := Kd.at_int (by repeat (first | (with_reducible exact HR428_0.out) | (with_reducible refine Kd.C_alloc ?_ _) | (with_reducible refine Kd.C_drewN ?_ _) | (with_reducible refine Kd.C_drew ?_) | exact HR428_0.out)) x7_2 p429 q429
                            cases e429
                            replace p429 := eq_true p429
                            replace q429 := eq_true q429
                            have p430 : 0 ≤ (x6_1 : Int) := of_decide_eq_true (by first | (with_reducible assumption) | assumption)
                            have q430 : x6_1 < (x5_2.length : Int) := of_decide_eq_true (by first | (with_reducible assumption) | assumption)
                            obtain ⟨ad430, A430_0, c430_0, e430, hx430_0, hl430_0, hi430_0⟩ := at_L7 (Kd.S_reads' HO_5.out).2.2 x6_1 p430 q430
                            obtain rfl : (⟨go14, 0, none⟩ : Addr) = ad430 := (by injection e430)
                            obtain ⟨ce430, hce430, hMe430, hcc430⟩ := Kd.S_get HO_5.out [] x6_1 p430 (by first | exact q430 | exact of_decide_eq_true (by first | (with_reducible assumption) | assumption) | (have e_ := (Kd.S_reads' HO_5.out).1; omega))
                            obtain ⟨ve430_0, rfl, ge430_0⟩ := hMe430
                            have hv430_0 := hcc430 0 _ rfl
                            rw [Nat.add_zero, show ((Kd.slice 3 (Kd.int .i64))).sz = 1 from rfl, Nat.mul_one] at hv430_0
                            replace hv430_0 := Option.some.inj (hv430_0.symm.trans hx430_0)
                            rw [hv430_0] at ge430_0
                            have HL430_0 := Aside0.mk (show Kd.R (Kd.int .i64) 3 _ _ _ _ (rd_L7 x5_2 x6_1) from ge430_0)
                            clear hv430_0 ge430_0
                            have HX430_0 := Aside0.mk hx430_0
                            clear hcc430 hce430
                            (first | simp only [add_plain] at hx430_0 | simp only [add_at] at hx430_0 | simp only [Addr.add, Nat.zero_add] at hx430_0 | skip)
                            have HR430_0 := Aside0.mk hi430_0
                            have HC430_0 := Aside0.mk hl430_0
                            clear hi430_0 hl430_0
                            replace p430 := eq_true p430
                            replace q430 := eq_true q430
                            have ea_ := Option.some.inj (hx427_0.symm.trans hx430_0)
                            injection ea_ with ea_ en_ ec_
                            subst ea_
                            subst ec_
                            clear en_
                            have p431 : 0 ≤ ((ji53) : Int) := of_decide_eq_true (by first | (with_reducible assumption) | assumption)
                            have q431 : (ji53) < ((rd_L7 x5_2 x6_1).length : Int) := of_decide_eq_true (by first | (with_reducible assumption) | assumption)
                            obtain ⟨ad431, e431, hx431_0⟩ := Kd.at_int (by repeat (first | (with_reducible exact HR430_0.out) | (with_reducible refine Kd.C_alloc ?_ _) | (with_reducible refine Kd.C_drewN ?_ _) | (with_reducible refine Kd.C_drew ?_) | exact HR430_0.out)) (ji53) p431 q431
                            cases e431
                            replace p431 := eq_true p431
                            replace q431 := eq_true q431
                            have p58 : 0 ≤ (x7_2 : Int) := of_decide_eq_true (by first | (with_reducible assumption) | assumption)
                            have q58 : (x7_2 : Int) < (((rd_L7 x5_2 x6_1).length : Int) : Int) := of_decide_eq_true (by first | (with_reducible assumption) | assumption)
                            obtain ⟨go58, co58, eo58, gb58, gl58, cl58, HG58⟩ := Kd.R_form HL427_0.out (by omega)
                            (first | cases eo58 | (injection eo58 with ea_ en_ ec_; (first | subst ea_ | (injection ea_ with ea_; subst ea_)); subst ec_; clear en_))
                            have GB58 := Aside0.mk gb58
                            have GG58 := Aside0.mk HG58
                            clear gb58 gl58 HG58
                            (first | simp only [add_plain] at hx431_0 | skip)
                            obtain ⟨hx58_0, hf58_0⟩ := Kd.R_celln 0 HL427_0.out (x7_2 : Int) p58 q58
                            replace p58 := eq_true p58
                            replace q58 := eq_true q58
                            have hq61 : (x6_1 : Int) < (x5_2.length : Int) := (by have h_ : (x6_1 : Int) < ((x5_2.length : Int) : Int) := of_decide_eq_true (by first | (with_reducible assumption) | assumption); first | exact h_ | (have e_ := (Kd.S_reads' HO_5.out).1; omega) | simpa only [List.length_set, List.length_set] using h_)
                            obtain ⟨oki61, ce61, hcl61, hM61, hcc61, hok61, hbk61⟩ := Kd.S_borrow HO_5.out [] (x6_1 : Int) (of_decide_eq_true (by first | (with_reducible assumption) | assumption)) hq61
                            obtain ⟨ve61_0, rfl, ge61_0⟩ := hM61
                            have hv61 := hcc61 0 _ rfl
                            rw [Nat.add_zero, show ((Kd.slice 3 (Kd.int .i64))).sz = 1 from rfl, Nat.mul_one] at hv61
                            replace hv61 := Option.some.inj (hv61.symm.trans HX427_0.out)
                            subst hv61
                            clear hcc61 hcl61
                            replace ge61_0 := (show Kd.R (Kd.int .i64) 3 _ _ _ _ (rd_L7 x5_2 x6_1) from ge61_0)
                            have HP61 := Kd.R_putg ge61_0 (x7_2 : Int) (wrap64 (1 + (ji56)))
                            rw [← Ny432.out] at HP61
                            have HS61 := hbk61 HP61.2 (fun k_ e_ => by injection e_ with e_; subst e_; exact ge61_0.1 _ rfl) (x' := y432) (Kd.M_row HP61.1)
                            rw [← Ny434.out] at HS61
                            have HQ61 := Aside0.mk HS61
                            clear HP61 HS61 hbk61 hok61
                            refine start_ (n := 25) (S := fun w' => w'.cell? ⟨go14, (x6_1).toNat, none⟩ = some (.slice (some ⟨go58, 0, none⟩) (rd_L7 x5_2 x6_1).length c427_0) ∧ w'.cell? ⟨go14, ((ji49)).toNat, none⟩ = some (.slice (some ad429) (rd_L7 x5_2 (ji49)).length c428_0) ∧ w'.cell? (ad429.add (x7_2).toNat) = some (.int .i64 (rd (rd_L7 x5_2 (ji49)) x7_2)) ∧ w'.cell? ⟨go14, (x6_1).toNat, none⟩ = some (.slice (some ⟨go58, 0, none⟩) (rd_L7 x5_2 x6_1).length c427_0) ∧ w'.cell? ⟨go58, ((ji53)).toNat, none⟩ = some (.int .i64 (rd (rd_L7 x5_2 x6_1) (ji53)))) (ds := [24]) #[false, false, false, false, false, false, false, false, false, false, false, false, false, false, false, false, false, false, false, false, false, false, false, false, false] (by kernel_rfl) rfl rfl ⟨hx427_0, hx428_0, hx429_0, hx430_0, hx431_0⟩ (fun hHeld => ?_); refine with_tabW salchowref49_Table.tab9 salchowref49_Table.bits9 (fun HT_ HW_ => ?_)
                            generalize w59.drew = w60 at HO_5 HB GG58 HL427_0 HL428_0 HL430_0 HQ61 HR427_0 HR428_0 HR430_0 HX427_0 HX428_0 HX430_0 hf58_0 hx427_0 hx428_0 hx429_0 hx430_0 hx431_0 hx58_0 hHeld ⊢
                            refine pure_ (i := 0) (N := some 31) (v := ?_) (a' := ?_) #[true, false, false, false, false, false, false, false, false, false, false, false, false, false, false, false, false, false, false, false, false, false, false, false, false] rfl rfl (any_of HT_.out (by kernel_rfl)) (fun _ _ _ h => h) (Or.inl ⟨by rfl, ?_⟩) ?_ ?_
                            rotate_left
                            ·intro w'
                             go_simp
                             with_reducible rfl
                            rotate_left
                            ·simp only [Act.put, sA_, sB_, sC_, i64_w, i32_w]
                             rfl
                            refine pure_ (i := 1) (N := some 32) (v := ?_) (a' := ?_) #[true, true, false, false, false, false, false, false, false, false, false, false, false, false, false, false, false, false, false, false, false, false, false, false, false] rfl rfl (any_of HT_.out (by kernel_rfl)) (fun _ _ _ h => h) (Or.inl ⟨by rfl, ?_⟩) ?_ ?_
                            rotate_left
                            ·intro w'
                             go_simp
                             with_reducible rfl
                            rotate_left
                            ·simp only [Act.put, sA_, sB_, sC_, i64_w, i32_w]
                             rfl
                            refine pure_ (i := 2) (N := some 33) (v := ?_) (a' := ?_) #[true, true, true, false, false, false, false, false, false, false, false, false, false, false, false, false, false, false, false, false, false, false, false, false, false] rfl rfl (any_of HT_.out (by kernel_rfl)) (fun _ _ _ h => h) (Or.inl ⟨by rfl, ?_⟩) ?_ ?_
                            rotate_left
                            ·intro w'
                             go_simp
                             with_reducible rfl
                            rotate_left
                            ·simp only [Act.put, sA_, sB_, sC_, i64_w, i32_w]
                             rfl
                            refine pure_ (i := 4) (N := some 35) (v := ?_) (a' := ?_) #[true, true, true, false, true, false, false, false, false, false, false, false, false, false, false, false, false, false, false, false, false, false, false, false, false] rfl rfl (any_of HT_.out (by kernel_rfl)) (fun _ _ _ h => h) (Or.inl ⟨by rfl, ?_⟩) ?_ ?_
                            rotate_left
                            ·intro w'
                             go_simp
                             with_reducible rfl
                            rotate_left
                            ·simp only [Act.put, sA_, sB_, sC_, i64_w, i32_w]
                             rfl
                            refine pure_ (i := 5) (N := some 36) (v := ?_) (a' := ?_) #[true, true, true, false, true, true, false, false, false, false, false, false, false, false, false, false, false, false, false, false, false, false, false, false, false] rfl rfl (any_of HT_.out (by kernel_rfl)) (fun _ _ _ h => h) (Or.inl ⟨by rfl, ?_⟩) ?_ ?_
                            rotate_left
                            ·intro w'
                             go_simp
                             with_reducible rfl
                            rotate_left
                            ·simp only [Act.put, sA_, sB_, sC_, i64_w, i32_w]
                             rfl
                            refine pure_ (i := 6) (N := some 37) (v := ?_) (a' := ?_) #[true, true, true, false, true, true, true, false, false, false, false, false, false, false, false, false, false, false, false, false, false, false, false, false, false] rfl rfl (any_of HT_.out (by kernel_rfl)) (fun _ _ _ h => h) (Or.inl ⟨by rfl, ?_⟩) ?_ ?_
                            rotate_left
                            ·intro w'
                             go_simp
                             with_reducible rfl
                            rotate_left
                            ·simp only [Act.put, sA_, sB_, sC_, i64_w, i32_w]
                             rfl
                            refine pure_ (i := 7) (N := some 38) (v := ?_) (a' := ?_) #[true, true, true, false, true, true, true, true, false, false, false, false, false, false, false, false, false, false, false, false, false, false, false, false, false] rfl rfl (any_of HT_.out (by kernel_rfl)) (fun _ _ _ h => h) (Or.inl ⟨by rfl, ?_⟩) ?_ ?_
                            rotate_left
                            ·intro w'
                             go_simp
                             with_reducible rfl
                            rotate_left
                            ·simp only [Act.put, sA_, sB_, sC_, i64_w, i32_w]
                             rfl
                            refine pure_ (i := 8) (N := some 39) (v := ?_) (a' := ?_) #[true, true, true, false, true, true, true, true, true, false, false, false, false, false, false, false, false, false, false, false, false, false, false, false, false] rfl rfl (any_of HT_.out (by kernel_rfl)) (fun _ _ _ h => h) (Or.inl ⟨by rfl, ?_⟩) ?_ ?_
                            rotate_left
                            ·intro w'
                             go_simp
                             with_reducible rfl
                            rotate_left
                            ·simp only [Act.put, sA_, sB_, sC_, i64_w, i32_w]
                             rfl
                            refine pure_ (i := 10) (N := some 41) (v := ?_) (a' := ?_) #[true, true, true, false, true, true, true, true, true, false, true, false, false, false, false, false, false, false, false, false, false, false, false, false, false] rfl rfl (any_of HT_.out (by kernel_rfl)) (fun _ _ _ h => h) (Or.inl ⟨by rfl, ?_⟩) ?_ ?_
                            rotate_left
                            ·intro w'
                             go_simp
                             with_reducible rfl
                            rotate_left
                            ·simp only [Act.put, sA_, sB_, sC_, i64_w, i32_w]
                             rfl
                            refine pure_ (i := 13) (N := some 44) (v := ?_) (a' := ?_) #[true, true, true, false, true, true, true, true, true, false, true, false, false, true, false, false, false, false, false, false, false, false, false, false, false] rfl rfl (any_of HT_.out (by kernel_rfl)) (fun _ _ _ h => h) (Or.inl ⟨by rfl, ?_⟩) ?_ ?_
                            rotate_left
                            ·intro w'
                             go_simp
                             with_reducible rfl
                            rotate_left
                            ·simp only [Act.put, sA_, sB_, sC_, i64_w, i32_w]
                             rfl
                            refine pure_ (i := 14) (N := some 45) (v := ?_) (a' := ?_) #[true, true, true, false, true, true, true, true, true, false, true, false, false, true, true, false, false, false, false, false, false, false, false, false, false] rfl rfl (any_of HT_.out (by kernel_rfl)) (fun _ _ _ h => h) (Or.inl ⟨by rfl, ?_⟩) ?_ ?_
                            rotate_left
                            ·intro w'
                             go_simp
                             with_reducible rfl
                            rotate_left
                            ·simp only [Act.put, sA_, sB_, sC_, i64_w, i32_w]
                             rfl
                            refine pure_ (i := 15) (N := some 46) (v := ?_) (a' := ?_) #[true, true, true, false, true, true, true, true, true, false, true, false, false, true, true, true, false, false, false, false, false, false, false, false, false] rfl rfl (any_of HT_.out (by kernel_rfl)) (fun _ _ _ h => h) (Or.inl ⟨by rfl, ?_⟩) ?_ ?_
                            rotate_left
                            ·intro w'
                             go_simp
                             with_reducible rfl
                            rotate_left
                            ·simp only [Act.put, sA_, sB_, sC_, i64_w, i32_w]
                             rfl
                            refine pure_ (i := 17) (N := some 48) (v := ?_) (a' := ?_) #[true, true, true, false, true, true, true, true, true, false, true, false, false, true, true, true, false, true, false, false, false, false, false, false, false] rfl rfl (any_of HT_.out (by kernel_rfl)) (fun _ _ _ h => h) (Or.inl ⟨by rfl, ?_⟩) ?_ ?_
                            rotate_left
                            ·intro w'
                             go_simp
                             with_reducible rfl
                            rotate_left
                            ·simp only [Act.put, sA_, sB_, sC_, i64_w, i32_w]
                             rfl
                            refine pure_ (i := 18) (N := some 49) (v := ?_) (a' := ?_) #[true, true, true, false, true, true, true, true, true, false, true, false, false, true, true, true, false, true, true, false, false, false, false, false, false] rfl rfl (any_of HT_.out (by kernel_rfl)) (fun _ _ _ h => h) (Or.inl ⟨by rfl, ?_⟩) ?_ ?_
                            rotate_left
                            ·intro w'
                             go_simp
                             with_reducible rfl
                            rotate_left
                            ·simp only [Act.put, sA_, sB_, sC_, i64_w, i32_w]
                             rfl
                            refine take_ (i := 3) (N := some 34) (v := ?_) (a' := ?_) #[true, true, true, true, true, true, true, true, true, false, true, false, false, true, true, true, false, true, true, false, false, false, false, false, false] rfl rfl (take_ofW HT_.out HW_.out (by kernel_rfl)) (fun _ _ _ h => h) (Or.inl ⟨by rfl, ?_⟩) hHeld ?_ ?_
                            rotate_left
                            ·rintro w' ⟨s0, s1, s2, s3, s4⟩
                             go_simp
                             with_reducible rfl
                            rotate_left
                            ·simp only [Act.put, sA_, sB_, sC_, i64_w, i32_w]
                             rfl
                            refine take_ (i := 9) (N := some 40) (v := ?_) (a' := ?_) #[true, true, true, true, true, true, true, true, true, true, true, false, false, true, true, true, false, true, true, false, false, false, false, false, false] rfl rfl (take_ofW HT_.out HW_.out (by kernel_rfl)) (fun _ _ _ h => h) (Or.inl ⟨by rfl, ?_⟩) hHeld ?_ ?_
                            rotate_left
                            ·rintro w' ⟨s0, s1, s2, s3, s4⟩
                             go_simp
                             with_reducible rfl
                            rotate_left
                            ·simp only [Act.put, sA_, sB_, sC_, i64_w, i32_w]
                             rfl
                            refine pure_ (i := 11) (N := some 42) (v := ?_) (a' := ?_) #[true, true, true, true, true, true, true, true, true, true, true, true, false, true, true, true, false, true, true, false, false, false, false, false, false] rfl rfl (any_of HT_.out (by kernel_rfl)) (fun _ _ _ h => h) (Or.inl ⟨by rfl, ?_⟩) ?_ ?_
                            rotate_left
                            ·intro w'
                             go_simp
                             with_reducible rfl
                            rotate_left
                            ·simp only [Act.put, sA_, sB_, sC_, i64_w, i32_w]
                             rfl
                            refine take_ (i := 12) (N := some 43) (v := ?_) (a' := ?_) #[true, true, true, true, true, true, true, true, true, true, true, true, true, true, true, true, false, true, true, false, false, false, false, false, false] rfl rfl (take_ofW HT_.out HW_.out (by kernel_rfl)) (fun _ _ _ h => h) (Or.inl ⟨by rfl, ?_⟩) hHeld ?_ ?_
                            rotate_left
                            ·rintro w' ⟨s0, s1, s2, s3, s4⟩
                             go_simp
                             with_reducible rfl
                            rotate_left
                            ·simp only [Act.put, sA_, sB_, sC_, i64_w, i32_w]
                             rfl
                            refine take_ (i := 16) (N := some 47) (v := ?_) (a' := ?_) #[true, true, true, true, true, true, true, true, true, true, true, true, true, true, true, true, true, true, true, false, false, false, false, false, false] rfl rfl (take_ofW HT_.out HW_.out (by kernel_rfl)) (fun _ _ _ h => h) (Or.inl ⟨by rfl, ?_⟩) hHeld ?_ ?_
                            rotate_left
                            ·rintro w' ⟨s0, s1, s2, s3, s4⟩
                             go_simp
                             with_reducible rfl
                            rotate_left
                            ·simp only [Act.put, sA_, sB_, sC_, i64_w, i32_w]
                             rfl
                            refine pure_ (i := 19) (N := some 50) (v := ?_) (a' := ?_) #[true, true, true, true, true, true, true, true, true, true, true, true, true, true, true, true, true, true, true, true, false, false, false, false, false] rfl rfl (any_of HT_.out (by kernel_rfl)) (fun _ _ _ h => h) (Or.inl ⟨by rfl, ?_⟩) ?_ ?_
                            rotate_left
                            ·intro w'
                             go_simp
                             with_reducible rfl
                            rotate_left
                            ·simp only [Act.put, sA_, sB_, sC_, i64_w, i32_w]
                             rfl
                            refine take_ (i := 20) (N := some 51) (v := ?_) (a' := ?_) #[true, true, true, true, true, true, true, true, true, true, true, true, true, true, true, true, true, true, true, true, true, false, false, false, false] rfl rfl (take_ofW HT_.out HW_.out (by kernel_rfl)) (fun _ _ _ h => h) (Or.inl ⟨by rfl, ?_⟩) hHeld ?_ ?_
                            rotate_left
                            ·rintro w' ⟨s0, s1, s2, s3, s4⟩
                             go_simp
                             with_reducible rfl
                            rotate_left
                            ·simp only [Act.put, sA_, sB_, sC_, i64_w, i32_w]
                             rfl
                            refine pure_ (i := 21) (N := some 52) (v := ?_) (a' := ?_) #[true, true, true, true, true, true, true, true, true, true, true, true, true, true, true, true, true, true, true, true, true, true, false, false, false] rfl rfl (any_of HT_.out (by kernel_rfl)) (fun _ _ _ h => h) (Or.inl ⟨by rfl, ?_⟩) ?_ ?_
                            rotate_left
                            ·intro w'
                             go_simp
                             with_reducible rfl
                            rotate_left
                            ·simp only [Act.put, sA_, sB_, sC_, i64_w, i32_w]
                             rfl
                            refine pure_ (i := 22) (N := some 53) (v := ?_) (a' := ?_) #[true, true, true, true, true, true, true, true, true, true, true, true, true, true, true, true, true, true, true, true, true, true, true, false, false] rfl rfl (any_of HT_.out (by kernel_rfl)) (fun _ _ _ h => h) (Or.inl ⟨by rfl, ?_⟩) ?_ ?_
                            rotate_left
                            ·intro w'
                             go_simp
                             with_reducible rfl
                            rotate_left
                            ·simp only [Act.put, sA_, sB_, sC_, i64_w, i32_w]
                             rfl
                            refine pure_ (i := 23) (N := some 54) (v := ?_) (a' := ?_) #[true, true, true, true, true, true, true, true, true, true, true, true, true, true, true, true, true, true, true, true, true, true, true, true, false] rfl rfl (any_of HT_.out (by kernel_rfl)) (fun _ _ _ h => h) (Or.inl ⟨by rfl, ?_⟩) ?_ ?_
                            rotate_left
                            ·intro w'
                             go_simp
                             with_reducible rfl
                            rotate_left
                            ·simp only [Act.put, sA_, sB_, sC_, i64_w, i32_w]
                             rfl
                            refine last_ (i := 24) (N := none) #[true, true, true, true, true, true, true, true, true, true, true, true, true, true, true, true, true, true, true, true, true, true, true, true, true] rfl rfl (one_of HT_.out (by kernel_rfl)) (by decide) (fun K hK => ?_)
                            refine skip_ (w1 := ?_) (by rfl) rfl ?_ ?_
                            rotate_left
                            ·go_simp
                             rfl
                            refine hK.out _ _ ?_
                            clear hK K
                            refine done_ (done_of HT_.out (by kernel_rfl)) ?_
                            try go_wp2
                            (try simp only [← hl5_2])
                            go_roundg kj19
                            case measure => have := HK1.out; have := HK2.out; have := HJ19.out; omega
                            case rel => exact ⟨(y434), (wrap64 (x7_2 - 1)), (by first | rfl | (simp; done) | (simp [*]; done)), H', ⟨by have := HK1.out; have := HK2.out; have := HJ19.out; omega⟩, ⟨by (try simp only [hl5_2]); (with_reducible repeat (first | apply Kd.S_alloc | apply Kd.S_drewN | apply Kd.S_drew)); exact HQ61.out⟩, ⟨by repeat (first | (with_reducible first | exact HB.out | apply below_alloc | apply pw_below_drewN | apply below_drew1 | refine below_set ?_ GB58.out) | exact HB.out)⟩⟩
                           ·rw [if_neg c57] at H
                            exact absurd H (by simp)
                          ·rw [if_neg c55] at H
                           exact absurd H (by simp)
                         ·rw [if_neg c54] at H
                          exact absurd H (by simp)
                        ·rw [if_neg c52] at H
                         exact absurd H (by simp)
                       ·rw [if_neg c51] at H
                        exact absurd H (by simp)
                      ·rw [if_neg c50] at H
                       exact absurd H (by simp)
                     ·rw [if_neg c48] at H
                      exact absurd H (by simp)
                   ·rw [if_neg c33] at H
                    exact absurd H (by simp)
                  ·rw [if_neg c32] at H
                   exact absurd H (by simp)
                 ·rw [if_neg c31] at H
                  exact absurd H (by simp)
                ·rw [if_neg c30] at H
                 exact absurd H (by simp)
            ·rw [if_neg c19] at H
             have c19b0 : decide (0 ≤ x7_2) = false := decide_eq_false c19
             clear c19
             have H' := Aside0.mk H
             clear H
             go_wp2
             (try simp only [← hl5_2])
             go_roundg k2
             case measure => have := HK1.out; have := HK2.out; omega
             case rel => exact ⟨(x5_2), (wrap64 (x6_1 - 1)), (by first | rfl | (simp; done) | (simp [*]; done)), H', ⟨by have := HK1.out; have := HK2.out; omega⟩, ⟨by (try simp only [hl5_2]); (with_reducible repeat (first | apply Kd.S_alloc | apply Kd.S_drewN | apply Kd.S_drew)); exact HO_5.out⟩, ⟨by repeat (first | (with_reducible first | exact HB.out | apply below_alloc | apply pw_below_drewN | apply below_drew1) | exact HB.out)⟩⟩
         ·rw [if_neg c13] at H
          exact absurd H (by simp)
        ·rw [if_neg c12] at H
         exact absurd H (by simp)
       ·rw [if_neg c11] at H
        exact absurd H (by simp)
      ·rw [if_neg c10] at H
       exact absurd H (by simp)
     ·rw [if_neg c8] at H
      have c8b0 : decide (0 ≤ x6_1) = false := decide_eq_false c8
      clear c8
      obtain rfl := Option.some.inj H
      go_wp2
      go_ret
      exact ⟨_, by first | rfl | (simp [errW_none, errW_some] <;> rfl) | (simp only [← hji3]; first | rfl | (simp [errW_none, errW_some] <;> rfl)) | (simp [*, errW_none, errW_some] <;> rfl), by (with_reducible repeat (first | apply Kd.S_alloc | apply Kd.S_drewN | apply Kd.S_drew)); exact HO_5.out, by repeat (first | (with_reducible first | exact HB.out | apply below_alloc | apply pw_below_drewN | apply below_drew1) | exact HB.out)⟩
  ·rw [if_neg c5] at H
   exact absurd H (by simp)
 ·rw [if_neg c4] at H
  exact absurd H (by simp)
end Go.Proofs.YtfpopmojlmpopaaDoor.G

end
section
namespace Go.Proofs.YtfpopmojlmpopaaDoor.H
open Go.RowKit Go.Proofs.YtfpopmojlmpopaaDoorW.PrintWords Go.Proofs.YtfpopmojlmpopaaDoorW.PrintLast Go.Proofs.YtfpopmojlmpopaaDoorW.PrintMore Go.Proofs.YtfpopmojlmpopaaDoor.G
set_option linter.unusedVariables false
set_option linter.unusedSimpArgs false
def salchowref49_Diff.f (K : Nat) (l0 l1 : List ByteArray) : Option (List S52 × Int) :=
 (salchowref49_Lines.f K l0).bind fun e0 => if e0 = true then (salchowref49_Lines.f K l1).bind fun e1 => if e1 = true then (salchowref49_Table.f K l0 l1).bind fun T =>
  if shapeOk T l0.length l1.length = true then (dfl T l0 l1 K [] false 0 0).bind fun o => some (o, 0) else none
 else some ([], 1) else some ([], 1)
theorem S_empty {W : World} {b : Nat} (hb : b ≤ W.heap.size) : SE (W.alloc (Obj.cells #[] 52)) b (fun _ => True) (.slice (some ⟨W.heap.size, 0, none⟩) 0 0) [] := by
 refine ⟨fun _ => 0, fun _ _ => trivial, [], ?_, ⟨rfl, fun j p h => by simp at h⟩⟩
 refine ⟨rfl, .inr ⟨W.heap.size, 0, #[], rfl, hb, heap_alloc_new _ _, ?_⟩⟩
 simp
theorem shape_at7 {T : List (List Int)} {n m : Nat} (h : shapeOk T n m = true) : T.length = n + 1 ∧ ∀ i : Nat, i < n + 1 → (rd_L7 T (i : Int)).length = m + 1 := by
 unfold shapeOk at h
 rw [Bool.and_eq_true, decide_eq_true_eq, List.all_eq_true] at h
 refine ⟨h.1, fun i hi => ?_⟩
 have := h.2 (T[i]'(by omega)) (List.getElem_mem _)
 simpa [rd_L7, List.getD, show i < T.length from by omega] using this
set_option maxHeartbeats 8000000 in
set_option maxRecDepth 100000 in
theorem salchowref49_Diff.calls (K : Nat) (A0 : Option Addr) (c0 : Nat) (l0 : List ByteArray) (A1 : Option Addr) (c1 : Nat) (l1 : List ByteArray) (r1 : List S52) (r2 : Int) (w : World) (hr0 : Kd.C Kd.string w A0 l0.length l0) (hc0 : l0.length ≤ c0) (hr1 : Kd.C Kd.string w A1 l1.length l1) (hc1 : l1.length ≤ c1) (h : salchowref49_Diff.f K l0 l1 = some (r1, r2)) :
  Calls Tryd.prog 21 #[.slice A0 l0.length c0, .slice A1 l1.length c1] w fun e w' => ∃ v, e = .returned (.tuple #[v, .int .i64 r2]) ∧ Kd.S k52 52 w' w.heap.size (fun _ => True) v r1 ∧ Below w.heap.size w w' := by
 have HR0 := Lib.hid hr0
 have HR1 := Lib.hid hr1
 have hm0 := Kd.C_max hr0
 have hm1 := Kd.C_max hr1
 clear hr0 hr1
 unfold salchowref49_Diff.f at h
 replace h := Option.bind_eq_some_iff.mp h
 obtain ⟨e0, he0, h⟩ := h
 have E0 := Lib.hid he0
 clear he0
 go_enter Tryd.func21, Tryd.ntmps21
 by_cases hz0 : e0 = true
 ·rw [if_pos hz0] at h
  replace h := Option.bind_eq_some_iff.mp h
  obtain ⟨e1, he1, h⟩ := h
  have E1 := Lib.hid he1
  clear he1
  subst hz0
  go_wp2_with fail
  refine (salchowref49_Lines.calls K A0 c0 l0 _ w HR0.out hc0 E0.out).mono ?_
  rintro e w1 ⟨rfl, hd1⟩
  have HB1 := Lib.hid hd1.below
  clear hd1
  go_wp2_with fail
  refine (salchowref49_Lines.calls K A1 c1 l1 _ w1 (Kd.C_below HR1.out HB1.out) hc1 E1.out).mono ?_
  rintro e w2 ⟨rfl, hd2⟩
  have HB2 : Hid (Below w.heap.size w w2) := Lib.hid (HB1.out.trans (hd2.below.mono HB1.out.size))
  clear hd2 HB1
  by_cases hz1 : e1 = true
  ·rw [if_pos hz1] at h
   subst hz1
   replace h := Option.bind_eq_some_iff.mp h
   obtain ⟨T, hT, h⟩ := h
   have ET := Lib.hid hT
   clear hT
   by_cases hsh : shapeOk T l0.length l1.length = true
   ·rw [if_pos hsh] at h
    have HSH := Lib.hid (shape_at7 hsh)
    clear hsh
    replace h := Option.bind_eq_some_iff.mp h
    obtain ⟨o, ho, h⟩ := h
    simp only [Option.some.injEq, Prod.mk.injEq] at h
    obtain ⟨rfl, rfl⟩ := h
    have HO := Lib.hid ho
    clear ho
    go_wp2_with fail
    refine (salchowref49_Table.calls K A0 c0 l0 A1 c1 l1 T w2 (Kd.C_below HR0.out HB2.out) hc0 (Kd.C_below HR1.out HB2.out) hc1 ET.out).mono ?_
    rintro e w3 ⟨vT, rfl, hS, hb⟩
    have HB3 : Hid (Below w.heap.size w w3) := Lib.hid (HB2.out.trans (hb.mono HB2.out.size))
    have HT3 := Lib.hid (Kd.S_lower hS HB2.out.size)
    obtain ⟨AT, cT, rfl, hcT, -⟩ := Kd.S_reads hS
    clear hS hb HB2
    go_wp2_with fail
    have HSE : Hid (SE (w3.alloc (Obj.cells #[] 52)) w.heap.size (fun _ => True) (.slice (some ⟨w3.heap.size, 0, none⟩) 0 0) []) := Lib.hid (S_empty HB3.out.size)
    have HT4 := Lib.hid (Kd.S_alloc HT3.out (Obj.cells #[] 52))
    have HB4 : Hid (Below w.heap.size w (w3.alloc (Obj.cells #[] 52))) := Lib.hid (below_alloc HB3.out _)
    clear HT3 HB3
    generalize w3.alloc (Obj.cells #[] 52) = w4 at HSE HT4 HB4 ⊢
    generalize w3.heap.size = g3 at HSE ⊢
    go_loopg [7, 8, 9, 10] K (fun kq v7 v8 v9 v10 w' => ∃ (out : List S52) (gap : Bool) (i k : Nat), v8 = .int .i64 i ∧ v9 = .int .i64 k ∧ v10 = .bool gap ∧ i ≤ l0.length ∧ k ≤ l1.length ∧ Hid (dfl T l0 l1 kq out gap i k = some o) ∧ Hid (kq ≤ K) ∧ Hid (SE w' w.heap.size (fun _ => True) v7 out) ∧ Hid (Kd.S (Kd.slice 3 (Kd.int .i64)) 80 w' w.heap.size (fun _ => True) (.slice AT T.length cT) T) ∧ Hid (Below w.heap.size w w'))
    case atStart => exact ⟨[], false, 0, 0, rfl, rfl, rfl, by omega, by omega, Lib.hid HO.out, Lib.hid (Nat.le_refl _), Lib.hid HSE.out, Lib.hid HT4.out, Lib.hid HB4.out⟩
    case round =>
     clear HO HSE HT4 HB4
     obtain ⟨out, gap, i, k, rfl, rfl, rfl, hi, hk, HA, HK1, HS, HT, HB⟩ := hrel
     cases gk with
     | zero => exact absurd HA.out (by simp [dfl])
     | succ k1 =>
      have hd := HA.out
      clear HA
      rw [dfl] at hd
      by_cases hi2 : i < l0.length
      ·have i0 := decide_eq_true (show (i : Int) < (l0.length : Int) from by omega)
       have i1 := eq_true (show (i : Int) < (l0.length : Int) from by omega)
       have i2 := eq_true (show (0 : Int) ≤ (i : Int) from by omega)
       obtain ⟨ada, ea, ha⟩ := Kd.at_string (Kd.C_below HR0.out HB.out) (i : Int) (by omega) (by omega)
       rw [Int.toNat_natCast] at ha
       subst ea
       by_cases hk2 : k < l1.length
       ·have k0 := decide_eq_true (show (k : Int) < (l1.length : Int) from by omega)
        have k01 := eq_true (show (k : Int) < (l1.length : Int) from by omega)
        have k02 := eq_true (show (0 : Int) ≤ (k : Int) from by omega)
        have k3 : ((k : Int) == (l1.length : Int)) = false := beq_eq_false_iff_ne.mpr (by omega)
        obtain ⟨adb, eb, hbb⟩ := Kd.at_string (Kd.C_below HR1.out HB.out) (k : Int) (by omega) (by omega)
        rw [Int.toNat_natCast] at hbb
        subst eb
        rw [if_pos (Or.inl hi2)] at hd
        by_cases heq : rdOf ByteArray.empty l0 (i : Int) = rdOf ByteArray.empty l1 (k : Int)
        ·rw [if_pos ⟨hi2, hk2, heq⟩] at hd
         have q0 : ((rdOf ByteArray.empty l0 (i : Int)).toList == (rdOf ByteArray.empty l1 (k : Int)).toList) = true := by rw [heq]; exact beq_self_eq_true _
         have HD := Lib.hid hd
         clear hd heq
         go_wp2_with fail
         go_quiet (fail)
         go_wp2_with fail
         go_roundg k1
         case measure => have := HK1.out; omega
         case rel => exact ⟨out, false, i + 1, k + 1, by go_num, by go_num, by go_num, by omega, by omega, Lib.hid HD.out, Lib.hid (by have := HK1.out; omega), Lib.hid (Kd.S_drewN HS.out _), Lib.hid (Kd.S_drewN HT.out _), Lib.hid (pw_below_drewN HB.out _)⟩
        ·rw [if_neg (fun h => heq h.2.2)] at hd
         have q0 : ((rdOf ByteArray.empty l0 (i : Int)).toList == (rdOf ByteArray.empty l1 (k : Int)).toList) = false := str_ne heq
         clear heq
         cases gap
         ·skip
          have HC := Lib.hid hd
          clear hd
          obtain ⟨⟨hn1, hbn, hf2⟩, hd⟩ := dif_gap HC.out
          clear HC
          simp only [gapE, Bool.false_eq_true, if_false] at hn1 hf2 hd
          obtain ⟨out1, hout1⟩ : ∃ out1, out ++ [(⟨(i : Int), 0, []⟩ : S52)] = out1 := ⟨_, rfl⟩
          rw [hout1] at hn1 hf2 hd
          have HN := Lib.hid hn1
          have HBND := Lib.hid hbn
          have HF2 := Lib.hid hf2
          have HD := Lib.hid hd
          clear hf2 hd hbn
          obtain ⟨jn, hjn⟩ : ∃ jn : Int, wrap64 ((out1.length : Int) - 1) = jn := ⟨_, rfl⟩
          have hjv : jn = (out1.length : Int) - 1 := by rw [← hjn]; exact w64 _ (by have h1 := HBND.out; have h2 : out1.length = out.length + 1 := by { rw [← hout1]; simp }; omega)
          have hjw : IntKind.i64.wrap ((out1.length : Int) - 1) = jn := (i64_w _).trans hjn
          have n0 := eq_true (show (0 : Int) ≤ jn from by omega)
          have n1 := eq_true (show jn < (out1.length : Int) from by omega)
          have n2 : jn.toNat = out1.length - 1 := by omega
          clear hjv
          clear hn1
          go_wp2_with fail
          go_quiet (fail)
          have HS1 := Lib.hid (Kd.S_drewN HS.out nq)
          have HT1 := Lib.hid (Kd.S_drewN HT.out nq)
          have HB1 := Lib.hid (pw_below_drewN HB.out nq)
          generalize wr.drewN nq = wq at HS1 HT1 HB1 ⊢
          clear HS HT HB
          (try clear ha)
          (try clear hbb)
          go_wp2_with (first
           | ((with_reducible refine gate_builtin (b := .append) (xs := #[.tmp 61, .tmp 64]) rfl ?_); at_builtin; refine Kd.S_append k52 (w0 := w) w.heap.size rfl (.tmp 61) (.tmp 64) 29 52 (.agg #[(.int .i64 0), (.int .i64 0), (.slice none 0 0)]) 40 rfl Tryd.underlying29 info52 rfl (by decide) (by omega) u7 out ⟨(i : Int), 0, []⟩ [.int .i64 (i : Int), .int .i64 0, .slice none 0 0] (fun _ => True) (fun _ => False) rfl rfl (k52_mkM _ _ _ _ (Kd.R_nil _ _ _ _ _)) (fun _ hk => hk.elim) (fun _ _ => trivial) (Kd.S_mono HS1.out (fun _ _ => ⟨trivial, fun h => h⟩)) HB1.out HB1.out.size (by have := HBND.out; omega) ?_; intro v79 w79 ho hb hg hat; rw [hout1] at ho; have HTW := Lib.hid (rows_grown 52 HT1.out hg (se_typed HS1.out) (by decide)); have HBW := Lib.hid hb; have HSW0 := ho; obtain ⟨g, cap, rfl, -, -, -, -⟩ := Kd.S_form ho HN.out; have HSW := Lib.hid HSW0; clear ho HSW0 hb hg hat))
          obtain ⟨hT1, hT2⟩ := HSH.out
          have t1 : (rd_L7 T ((i : Int) + 1)).length = l1.length + 1 := hT2 (i + 1) (by omega)
          have t2 : (rd_L7 T (i : Int)).length = l1.length + 1 := hT2 i (by omega)
          obtain ⟨ji, hji⟩ : ∃ ji : Int, wrap64 ((i : Int) + 1) = ji := ⟨_, rfl⟩
          obtain ⟨jk, hjk⟩ : ∃ jk : Int, wrap64 ((k : Int) + 1) = jk := ⟨_, rfl⟩
          have hjiw : IntKind.i64.wrap ((i : Int) + 1) = ji := (i64_w _).trans hji
          have hjkw : IntKind.i64.wrap ((k : Int) + 1) = jk := (i64_w _).trans hjk
          have vi : ji = (i : Int) + 1 := by rw [← hji]; exact w64 _ (by omega)
          have vk : jk = (k : Int) + 1 := by rw [← hjk]; exact w64 _ (by omega)
          rw [← vi] at t1
          have x7 : ji.toNat = i + 1 := by omega
          have x8 : jk.toNat = k + 1 := by omega
          have hCT := (Kd.S_reads' HTW.out).2.2
          obtain ⟨adT, At1, cc1, eT, hx1, -, hC1⟩ := at_L7 hCT ji (by omega) (by omega)
          subst eT
          obtain ⟨ad1, e1', hy1⟩ := Kd.at_int hC1 (k : Int) (by omega) (by omega)
          subst e1'
          obtain ⟨adT', At2, cc2, eT, hx2, -, hC2⟩ := at_L7 hCT (i : Int) (by omega) (by omega)
          obtain rfl := Option.some.inj eT
          obtain ⟨ad2, e2', hy2⟩ := Kd.at_int hC2 jk (by omega) (by omega)
          subst e2'
          rw [Int.toNat_natCast] at hx2 hy1
          have y1 := eq_true (show (0 : Int) ≤ ji from by omega)
          have y2 := eq_true (show ji < (T.length : Int) from by omega)
          have y3 := eq_true (show (i : Int) < (T.length : Int) from by omega)
          have y4 := eq_true (show (k : Int) < ((rd_L7 T ji).length : Int) from by omega)
          have y5 := eq_true (show jk < ((rd_L7 T (i : Int)).length : Int) from by omega)
          have y6 := eq_true (show (0 : Int) ≤ jk from by omega)
          have tt : (tabAt T (i + 1) k ≤ tabAt T i (k + 1)) ↔ rd (rd_L7 T ji) (k : Int) ≤ rd (rd_L7 T (i : Int)) jk := by unfold tabAt rd_L7; rw [x7, Int.toNat_natCast, vk]; exact Iff.rfl
          have HVI := Lib.hid vi
          have HVK := Lib.hid vk
          clear vi vk x7 x8
          have hkn : ¬ k = l1.length := by omega
          clear hT1 hT2 t1 t2 hCT hC1 hC2 eT
          by_cases hle : rd (rd_L7 T ji) (k : Int) ≤ rd (rd_L7 T (i : Int)) jk
          ·have hd := HD.out
           rw [if_pos ⟨hi2, .inr (tt.2 hle)⟩] at hd
           clear HD
           have HD := Lib.hid hd
           have y7 := decide_eq_true hle
           clear hd hle tt
           go_quiet (fail)
           have HSZ := Lib.hid (Kd.S_drewN HSW.out nq)
           have HTZ := Lib.hid (Kd.S_drewN HTW.out nq)
           have HBZ := Lib.hid (pw_below_drewN HBW.out nq)
           generalize w79.drewN nq = wz at HSZ HTZ HBZ ⊢
           clear HSW HTW HBW
           obtain ⟨oki, v2, hR, hlt, hH⟩ := last_get HSZ.out HN.out
           obtain ⟨z0, z1, z2, zf⟩ := last_cells hH HN.out
           have z1f := zf 1
           have HR := Lib.hid hR
           have HH := Lib.hid hH
           clear hR hlt hH zf z0 z2
           obtain ⟨cz, hz⟩ := se_typed HSZ.out g rfl
           have HZG := Lib.hid hz
           clear hz
           go_wp2_with fail
           go_roundg k1
           case measure => have := HK1.out; omega
           case rel => exact ⟨stepDel out1, true, i + 1, k, by first | go_num | (rw [HVI.out]; rfl) | (simp only [HVI.out]; rfl), rfl, rfl, by omega, by omega, Lib.hid HD.out, Lib.hid (by have := HK1.out; omega), Lib.hid (last_bump HN.out HR.out HH.out _), Lib.hid (Kd.S_set HTZ.out HZG.out (by decide) _ _), Lib.hid (below_set HBZ.out (Kd.S_base HSZ.out g rfl))⟩
          ·have hd := HD.out
           rw [if_neg (fun h => h.2.elim hkn (fun h => hle (tt.1 h)))] at hd
           clear HD
           have HD := Lib.hid hd
           have y7 := decide_eq_false hle
           clear hd hle tt
           go_quiet (fail)
           have HSZ := Lib.hid (Kd.S_drewN HSW.out nq)
           have HTZ := Lib.hid (Kd.S_drewN HTW.out nq)
           have HBZ := Lib.hid (pw_below_drewN HBW.out nq)
           generalize w79.drewN nq = wz at HSZ HTZ HBZ ⊢
           clear HSW HTW HBW
           have HSD := Lib.hid (Kd.S_drew HSZ.out)
           have HTD := Lib.hid (Kd.S_drew HTZ.out)
           have HBD := Lib.hid (below_drew HBZ.out)
           obtain ⟨oki, v2, hR, hlt, hH⟩ := last_get HSD.out HN.out
           obtain ⟨A2, c2, rfl, -, -⟩ := Kd.R_reads hR
           have HH := Lib.hid hH
           obtain ⟨z0, z1, z2, zf⟩ := last_cells hH HN.out
           have HR := Lib.hid hR
           have HLT := Lib.hid hlt
           clear hR hlt hH zf z0 z1
           obtain ⟨adb', eb', sb⟩ := Kd.at_string (Kd.C_below HR1.out HBD.out) (k : Int) (by omega) (by omega)
           obtain rfl := Option.some.inj eb'
           rw [Int.toNat_natCast] at sb
           clear eb'
           obtain ⟨cz, hz⟩ := se_typed HSD.out g rfl
           have HZG := Lib.hid hz
           clear hz
           go_wp2_with fail
           refine start_ (n := 14) (S := fun w' => w'.cell? ⟨g, (out1.length - 1) * 3 + 2, none⟩ = some (.slice A2 (rd_T52 out1 ((out1.length : Int) - 1)).f2.length c2) ∧ w'.cell? (adb.add k) = some (.string (rdOf ByteArray.empty l1 (k : Int)))) (ds := [13]) #[false, false, false, false, false, false, false, false, false, false, false, false, false, false] (by kernel_rfl) rfl rfl ⟨z2, sb⟩ (fun hHeld => ?_)
           generalize wz.drew = wd at HSD HTD HBD HH HR HLT HZG z2 sb hHeld ⊢
           refine pure_ (i := 0) (N := some 109) (v := ?_) (a' := ?_) #[true, false, false, false, false, false, false, false, false, false, false, false, false, false] rfl rfl (by kernel_rfl) (fun _ _ _ h => h) (Or.inl ⟨by rfl, ?_⟩) ?_ ?_
           rotate_left
           ·intro w'
            go_simp
            with_reducible rfl
           rotate_left
           ·simp only [Act.put, sA_, sB_, sC_, i64_w, i32_w]
            rfl
           refine pure_ (i := 1) (N := some 110) (v := ?_) (a' := ?_) #[true, true, false, false, false, false, false, false, false, false, false, false, false, false] rfl rfl (by kernel_rfl) (fun _ _ _ h => h) (Or.inl ⟨by rfl, ?_⟩) ?_ ?_
           rotate_left
           ·intro w'
            go_simp
            with_reducible rfl
           rotate_left
           ·simp only [Act.put, sA_, sB_, sC_, i64_w, i32_w]
            rfl
           refine pure_ (i := 2) (N := some 111) (v := ?_) (a' := ?_) #[true, true, true, false, false, false, false, false, false, false, false, false, false, false] rfl rfl (by kernel_rfl) (fun _ _ _ h => h) (Or.inl ⟨by rfl, ?_⟩) ?_ ?_
           rotate_left
           ·intro w'
            go_simp
            with_reducible rfl
           rotate_left
           ·simp only [Act.put, sA_, sB_, sC_, i64_w, i32_w]
            rfl
           refine pure_ (i := 3) (N := some 112) (v := ?_) (a' := ?_) #[true, true, true, true, false, false, false, false, false, false, false, false, false, false] rfl rfl (by kernel_rfl) (fun _ _ _ h => h) (Or.inl ⟨by rfl, ?_⟩) ?_ ?_
           rotate_left
           ·intro w'
            go_simp
            with_reducible rfl
           rotate_left
           ·simp only [Act.put, sA_, sB_, sC_, i64_w, i32_w]
            rfl
           refine pure_ (i := 5) (N := some 114) (v := ?_) (a' := ?_) #[true, true, true, true, false, true, false, false, false, false, false, false, false, false] rfl rfl (by kernel_rfl) (fun _ _ _ h => h) (Or.inl ⟨by rfl, ?_⟩) ?_ ?_
           rotate_left
           ·intro w'
            go_simp
            with_reducible rfl
           rotate_left
           ·simp only [Act.put, sA_, sB_, sC_, i64_w, i32_w]
            rfl
           refine pure_ (i := 6) (N := some 115) (v := ?_) (a' := ?_) #[true, true, true, true, false, true, true, false, false, false, false, false, false, false] rfl rfl (by kernel_rfl) (fun _ _ _ h => h) (Or.inl ⟨by rfl, ?_⟩) ?_ ?_
           rotate_left
           ·intro w'
            go_simp
            with_reducible rfl
           rotate_left
           ·simp only [Act.put, sA_, sB_, sC_, i64_w, i32_w]
            rfl
           refine pure_ (i := 7) (N := some 116) (v := ?_) (a' := ?_) #[true, true, true, true, false, true, true, true, false, false, false, false, false, false] rfl rfl (by kernel_rfl) (fun _ _ _ h => h) (Or.inl ⟨by rfl, ?_⟩) ?_ ?_
           rotate_left
           ·intro w'
            go_simp
            with_reducible rfl
           rotate_left
           ·simp only [Act.put, sA_, sB_, sC_, i64_w, i32_w]
            rfl
           refine take_ (i := 4) (N := some 113) (v := ?_) (a' := ?_) #[true, true, true, true, true, true, true, true, false, false, false, false, false, false] rfl rfl (by kernel_rfl) (fun _ _ _ h => h) (Or.inl ⟨by rfl, ?_⟩) hHeld ?_ ?_
           rotate_left
           ·rintro w' ⟨s0, s1⟩
            go_simp
            with_reducible rfl
           rotate_left
           ·simp only [Act.put, sA_, sB_, sC_, i64_w, i32_w]
            rfl
           refine take_ (i := 8) (N := some 117) (v := ?_) (a' := ?_) #[true, true, true, true, true, true, true, true, true, false, false, false, false, false] rfl rfl (by kernel_rfl) (fun _ _ _ h => h) (Or.inl ⟨by rfl, ?_⟩) hHeld ?_ ?_
           rotate_left
           ·rintro w' ⟨s0, s1⟩
            go_simp
            with_reducible rfl
           rotate_left
           ·simp only [Act.put, sA_, sB_, sC_, i64_w, i32_w]
            rfl
           refine one_ (i := 9) (N := some 118) #[true, true, true, true, true, true, true, true, true, true, false, false, false, false] rfl rfl (by kernel_rfl) (by decide) (fun K hK => ?_)
           refine value_ (w1 := ?_) (v := ?_) (by rfl) rfl ?_ ?_
           rotate_left 2
           ·go_simp
            constructor
            ·rfl
            ·rfl
           refine hK.out _ _ ⟨pw_cell_below (below_alloc (Below.refl wd.heap.size wd) _) z2, pw_cell_below (below_alloc (Below.refl wd.heap.size wd) _) sb⟩ (fun hHeld => ?_)
           clear hK K
           refine norm_ (a' := ?_) ?_ ?_
           rotate_left
           ·show Act.put _ (some 118) _ = _
            simp only [Act.put, sA_, sB_, sC_, i64_w, i32_w]
            rfl
           refine one_ (i := 10) (N := some 119) #[true, true, true, true, true, true, true, true, true, true, true, false, false, false] rfl rfl (by kernel_rfl) (by decide) (fun K hK => ?_)
           refine Kd.R_append_step Kd.string (w0 := w) w.heap.size (by rfl) (.tmp 113) (.tmp 118) 28 9 (.string ⟨#[]⟩) 16 (by rfl) Tryd.underlying28 info9 rfl (by decide) (by omega) (.slice A2 (rd_T52 out1 ((out1.length : Int) - 1)).f2.length c2) (rd_T52 out1 ((out1.length : Int) - 1)).f2 (rdOf ByteArray.empty l1 (k : Int)) [.string (rdOf ByteArray.empty l1 (k : Int))] (fun k => oki k ∨ wd.heap.size ≤ k) (fun _ => False) (by rfl) (by rfl) rfl (fun _ hk => hk.elim) (fun k hk => .inr hk) (Kd.R_mono HR.out (fun k hk => .inl hk)) HBD.out HBD.out.size (by have h1 := HF2.out; unfold lastE at h1; omega) ?_
           intro v3 w3 ho hb hg hat
           have HRV0 := ho
           obtain ⟨A3, c3, rfl, -, -⟩ := Kd.R_reads ho
           have HRV := Lib.hid HRV0
           have HGV := Lib.hid hg
           have HBV := Lib.hid hb
           clear ho hb hg hat HRV0
           have HNE : Hid (some g ≠ (Value.slice A2 (rd_T52 out1 ((out1.length : Int) - 1)).f2.length c2).ownBlock) := Lib.hid (own_ne9 HR.out HZG.out)
           obtain ⟨-, -, e4, q4⟩ := last_cells (Kd.H_grown HH.out HGV.out (fun k hk => HR.out.1 k hk)) HN.out
           have q5 := q4 2
           clear q4
           obtain ⟨adb3, eb3, sb3⟩ := Kd.at_string (Kd.C_below HR1.out HBV.out) (k : Int) (by omega) (by omega)
           obtain rfl := Option.some.inj eb3
           clear eb3
           rw [Int.toNat_natCast] at sb3
           refine hK.out _ _ ⟨e4, sb3⟩ (fun hHeld => ?_)
           clear hK K
           refine norm_ (a' := ?_) ?_ ?_
           rotate_left
           ·show Act.put _ (some 119) _ = _
            simp only [Act.put, sA_, sB_, sC_, i64_w, i32_w]
            rfl
           refine pure_ (i := 11) (N := some 120) (v := ?_) (a' := ?_) #[true, true, true, true, true, true, true, true, true, true, true, true, false, false] rfl rfl (by kernel_rfl) (fun _ _ _ h => h) (Or.inl ⟨by rfl, ?_⟩) ?_ ?_
           rotate_left
           ·intro w'
            go_simp
            with_reducible rfl
           rotate_left
           ·simp only [Act.put, sA_, sB_, sC_, i64_w, i32_w]
            rfl
           refine pure_ (i := 12) (N := some 121) (v := ?_) (a' := ?_) #[true, true, true, true, true, true, true, true, true, true, true, true, true, false] rfl rfl (by kernel_rfl) (fun _ _ _ h => h) (Or.inl ⟨by rfl, ?_⟩) ?_ ?_
           rotate_left
           ·intro w'
            go_simp
            with_reducible rfl
           rotate_left
           ·simp only [Act.put, sA_, sB_, sC_, i64_w, i32_w]
            rfl
           refine last_ (i := 13) (N := none) #[true, true, true, true, true, true, true, true, true, true, true, true, true, true] rfl rfl (by kernel_rfl) (by decide) (fun K hK => ?_)
           refine skip_ (w1 := ?_) (by rfl) rfl ?_ ?_
           rotate_left
           ·go_simp
            rfl
           refine hK.out _ _ ?_
           clear hK K
           refine done_ (by kernel_rfl) ?_
           have HFIN := Lib.hid (last_add (W1 := w3) HN.out HLT.out HGV.out HR.out HRV.out HH.out (blk_lt HZG.out))
           have HT3 := Lib.hid (rows_grown 9 HTD.out HGV.out (fun k hk => by
            obtain ⟨inner, ho⟩ := Kd.R_own HR.out
            exact own_typed ho k hk) (by decide))
           go_wp2_with fail
           go_roundg k1
           case measure => have := HK1.out; omega
           case rel => exact ⟨stepAdd out1 (rdOf ByteArray.empty l1 (k : Int)), true, i, k + 1, rfl, by first | go_num | (rw [HVK.out]; rfl) | (simp only [HVK.out]; rfl), rfl, by omega, by omega, Lib.hid HD.out, Lib.hid (by have := HK1.out; omega), Lib.hid (by have h := HFIN.out; rw [List.length_append, List.length_singleton] at h; exact h), Lib.hid (Kd.S_set HT3.out (blk_grown HZG.out HGV.out HNE.out) (by decide) _ _), Lib.hid (below_set HBV.out (Kd.S_base HSD.out g rfl))⟩
         ·skip
          have HC := Lib.hid hd
          clear hd
          obtain ⟨⟨hn1, hbn, hf2⟩, hd⟩ := dif_gap HC.out
          clear HC
          simp only [gapE, if_true] at hn1 hf2 hd
          obtain ⟨g, cap, rfl, -, -, -, -⟩ := Kd.S_form HS.out hn1
          have HN := Lib.hid hn1
          have HF2 := Lib.hid hf2
          have HD := Lib.hid hd
          clear hf2 hd
          obtain ⟨out1, hout1⟩ : ∃ out1, out = out1 := ⟨_, rfl⟩
          subst hout1
          obtain ⟨jn, hjn⟩ : ∃ jn : Int, wrap64 ((out.length : Int) - 1) = jn := ⟨_, rfl⟩
          have hjv : jn = (out.length : Int) - 1 := by rw [← hjn]; exact w64 _ (by omega)
          have hjw : IntKind.i64.wrap ((out.length : Int) - 1) = jn := (i64_w _).trans hjn
          have n0 := eq_true (show (0 : Int) ≤ jn from by omega)
          have n1 := eq_true (show jn < (out.length : Int) from by omega)
          have n2 : jn.toNat = out.length - 1 := by omega
          clear hjv
          clear hn1
          go_wp2_with fail
          go_quiet (fail)
          have HS1 := Lib.hid (Kd.S_drewN HS.out nq)
          have HT1 := Lib.hid (Kd.S_drewN HT.out nq)
          have HB1 := Lib.hid (pw_below_drewN HB.out nq)
          generalize wr.drewN nq = wq at HS1 HT1 HB1 ⊢
          clear HS HT HB
          (try clear ha)
          (try clear hbb)
          have HSW := HS1
          have HTW := HT1
          have HBW := HB1
          clear HS1 HT1 HB1
          go_wp2_with fail
          obtain ⟨hT1, hT2⟩ := HSH.out
          have t1 : (rd_L7 T ((i : Int) + 1)).length = l1.length + 1 := hT2 (i + 1) (by omega)
          have t2 : (rd_L7 T (i : Int)).length = l1.length + 1 := hT2 i (by omega)
          obtain ⟨ji, hji⟩ : ∃ ji : Int, wrap64 ((i : Int) + 1) = ji := ⟨_, rfl⟩
          obtain ⟨jk, hjk⟩ : ∃ jk : Int, wrap64 ((k : Int) + 1) = jk := ⟨_, rfl⟩
          have hjiw : IntKind.i64.wrap ((i : Int) + 1) = ji := (i64_w _).trans hji
          have hjkw : IntKind.i64.wrap ((k : Int) + 1) = jk := (i64_w _).trans hjk
          have vi : ji = (i : Int) + 1 := by rw [← hji]; exact w64 _ (by omega)
          have vk : jk = (k : Int) + 1 := by rw [← hjk]; exact w64 _ (by omega)
          rw [← vi] at t1
          have x7 : ji.toNat = i + 1 := by omega
          have x8 : jk.toNat = k + 1 := by omega
          have hCT := (Kd.S_reads' HTW.out).2.2
          obtain ⟨adT, At1, cc1, eT, hx1, -, hC1⟩ := at_L7 hCT ji (by omega) (by omega)
          subst eT
          obtain ⟨ad1, e1', hy1⟩ := Kd.at_int hC1 (k : Int) (by omega) (by omega)
          subst e1'
          obtain ⟨adT', At2, cc2, eT, hx2, -, hC2⟩ := at_L7 hCT (i : Int) (by omega) (by omega)
          obtain rfl := Option.some.inj eT
          obtain ⟨ad2, e2', hy2⟩ := Kd.at_int hC2 jk (by omega) (by omega)
          subst e2'
          rw [Int.toNat_natCast] at hx2 hy1
          have y1 := eq_true (show (0 : Int) ≤ ji from by omega)
          have y2 := eq_true (show ji < (T.length : Int) from by omega)
          have y3 := eq_true (show (i : Int) < (T.length : Int) from by omega)
          have y4 := eq_true (show (k : Int) < ((rd_L7 T ji).length : Int) from by omega)
          have y5 := eq_true (show jk < ((rd_L7 T (i : Int)).length : Int) from by omega)
          have y6 := eq_true (show (0 : Int) ≤ jk from by omega)
          have tt : (tabAt T (i + 1) k ≤ tabAt T i (k + 1)) ↔ rd (rd_L7 T ji) (k : Int) ≤ rd (rd_L7 T (i : Int)) jk := by unfold tabAt rd_L7; rw [x7, Int.toNat_natCast, vk]; exact Iff.rfl
          have HVI := Lib.hid vi
          have HVK := Lib.hid vk
          clear vi vk x7 x8
          have hkn : ¬ k = l1.length := by omega
          clear hT1 hT2 t1 t2 hCT hC1 hC2 eT
          by_cases hle : rd (rd_L7 T ji) (k : Int) ≤ rd (rd_L7 T (i : Int)) jk
          ·have hd := HD.out
           rw [if_pos ⟨hi2, .inr (tt.2 hle)⟩] at hd
           clear HD
           have HD := Lib.hid hd
           have y7 := decide_eq_true hle
           clear hd hle tt
           go_quiet (fail)
           have HSZ := Lib.hid (Kd.S_drewN HSW.out nq)
           have HTZ := Lib.hid (Kd.S_drewN HTW.out nq)
           have HBZ := Lib.hid (pw_below_drewN HBW.out nq)
           generalize wq.drewN nq = wz at HSZ HTZ HBZ ⊢
           clear HSW HTW HBW
           obtain ⟨oki, v2, hR, hlt, hH⟩ := last_get HSZ.out HN.out
           obtain ⟨z0, z1, z2, zf⟩ := last_cells hH HN.out
           have z1f := zf 1
           have HR := Lib.hid hR
           have HH := Lib.hid hH
           clear hR hlt hH zf z0 z2
           obtain ⟨cz, hz⟩ := se_typed HSZ.out g rfl
           have HZG := Lib.hid hz
           clear hz
           go_wp2_with fail
           go_roundg k1
           case measure => have := HK1.out; omega
           case rel => exact ⟨stepDel out, true, i + 1, k, by first | go_num | (rw [HVI.out]; rfl) | (simp only [HVI.out]; rfl), rfl, rfl, by omega, by omega, Lib.hid HD.out, Lib.hid (by have := HK1.out; omega), Lib.hid (last_bump HN.out HR.out HH.out _), Lib.hid (Kd.S_set HTZ.out HZG.out (by decide) _ _), Lib.hid (below_set HBZ.out (Kd.S_base HSZ.out g rfl))⟩
          ·have hd := HD.out
           rw [if_neg (fun h => h.2.elim hkn (fun h => hle (tt.1 h)))] at hd
           clear HD
           have HD := Lib.hid hd
           have y7 := decide_eq_false hle
           clear hd hle tt
           go_quiet (fail)
           have HSZ := Lib.hid (Kd.S_drewN HSW.out nq)
           have HTZ := Lib.hid (Kd.S_drewN HTW.out nq)
           have HBZ := Lib.hid (pw_below_drewN HBW.out nq)
           generalize wq.drewN nq = wz at HSZ HTZ HBZ ⊢
           clear HSW HTW HBW
           have HSD := Lib.hid (Kd.S_drew HSZ.out)
           have HTD := Lib.hid (Kd.S_drew HTZ.out)
           have HBD := Lib.hid (below_drew HBZ.out)
           obtain ⟨oki, v2, hR, hlt, hH⟩ := last_get HSD.out HN.out
           obtain ⟨A2, c2, rfl, -, -⟩ := Kd.R_reads hR
           have HH := Lib.hid hH
           obtain ⟨z0, z1, z2, zf⟩ := last_cells hH HN.out
           have HR := Lib.hid hR
           have HLT := Lib.hid hlt
           clear hR hlt hH zf z0 z1
           obtain ⟨adb', eb', sb⟩ := Kd.at_string (Kd.C_below HR1.out HBD.out) (k : Int) (by omega) (by omega)
           obtain rfl := Option.some.inj eb'
           rw [Int.toNat_natCast] at sb
           clear eb'
           obtain ⟨cz, hz⟩ := se_typed HSD.out g rfl
           have HZG := Lib.hid hz
           clear hz
           go_wp2_with fail
           refine start_ (n := 14) (S := fun w' => w'.cell? ⟨g, (out.length - 1) * 3 + 2, none⟩ = some (.slice A2 (rd_T52 out ((out.length : Int) - 1)).f2.length c2) ∧ w'.cell? (adb.add k) = some (.string (rdOf ByteArray.empty l1 (k : Int)))) (ds := [13]) #[false, false, false, false, false, false, false, false, false, false, false, false, false, false] (by kernel_rfl) rfl rfl ⟨z2, sb⟩ (fun hHeld => ?_)
           generalize wz.drew = wd at HSD HTD HBD HH HR HLT HZG z2 sb hHeld ⊢
           refine pure_ (i := 0) (N := some 109) (v := ?_) (a' := ?_) #[true, false, false, false, false, false, false, false, false, false, false, false, false, false] rfl rfl (by kernel_rfl) (fun _ _ _ h => h) (Or.inl ⟨by rfl, ?_⟩) ?_ ?_
           rotate_left
           ·intro w'
            go_simp
            with_reducible rfl
           rotate_left
           ·simp only [Act.put, sA_, sB_, sC_, i64_w, i32_w]
            rfl
           refine pure_ (i := 1) (N := some 110) (v := ?_) (a' := ?_) #[true, true, false, false, false, false, false, false, false, false, false, false, false, false] rfl rfl (by kernel_rfl) (fun _ _ _ h => h) (Or.inl ⟨by rfl, ?_⟩) ?_ ?_
           rotate_left
           ·intro w'
            go_simp
            with_reducible rfl
           rotate_left
           ·simp only [Act.put, sA_, sB_, sC_, i64_w, i32_w]
            rfl
           refine pure_ (i := 2) (N := some 111) (v := ?_) (a' := ?_) #[true, true, true, false, false, false, false, false, false, false, false, false, false, false] rfl rfl (by kernel_rfl) (fun _ _ _ h => h) (Or.inl ⟨by rfl, ?_⟩) ?_ ?_
           rotate_left
           ·intro w'
            go_simp
            with_reducible rfl
           rotate_left
           ·simp only [Act.put, sA_, sB_, sC_, i64_w, i32_w]
            rfl
           refine pure_ (i := 3) (N := some 112) (v := ?_) (a' := ?_) #[true, true, true, true, false, false, false, false, false, false, false, false, false, false] rfl rfl (by kernel_rfl) (fun _ _ _ h => h) (Or.inl ⟨by rfl, ?_⟩) ?_ ?_
           rotate_left
           ·intro w'
            go_simp
            with_reducible rfl
           rotate_left
           ·simp only [Act.put, sA_, sB_, sC_, i64_w, i32_w]
            rfl
           refine pure_ (i := 5) (N := some 114) (v := ?_) (a' := ?_) #[true, true, true, true, false, true, false, false, false, false, false, false, false, false] rfl rfl (by kernel_rfl) (fun _ _ _ h => h) (Or.inl ⟨by rfl, ?_⟩) ?_ ?_
           rotate_left
           ·intro w'
            go_simp
            with_reducible rfl
           rotate_left
           ·simp only [Act.put, sA_, sB_, sC_, i64_w, i32_w]
            rfl
           refine pure_ (i := 6) (N := some 115) (v := ?_) (a' := ?_) #[true, true, true, true, false, true, true, false, false, false, false, false, false, false] rfl rfl (by kernel_rfl) (fun _ _ _ h => h) (Or.inl ⟨by rfl, ?_⟩) ?_ ?_
           rotate_left
           ·intro w'
            go_simp
            with_reducible rfl
           rotate_left
           ·simp only [Act.put, sA_, sB_, sC_, i64_w, i32_w]
            rfl
           refine pure_ (i := 7) (N := some 116) (v := ?_) (a' := ?_) #[true, true, true, true, false, true, true, true, false, false, false, false, false, false] rfl rfl (by kernel_rfl) (fun _ _ _ h => h) (Or.inl ⟨by rfl, ?_⟩) ?_ ?_
           rotate_left
           ·intro w'
            go_simp
            with_reducible rfl
           rotate_left
           ·simp only [Act.put, sA_, sB_, sC_, i64_w, i32_w]
            rfl
           refine take_ (i := 4) (N := some 113) (v := ?_) (a' := ?_) #[true, true, true, true, true, true, true, true, false, false, false, false, false, false] rfl rfl (by kernel_rfl) (fun _ _ _ h => h) (Or.inl ⟨by rfl, ?_⟩) hHeld ?_ ?_
           rotate_left
           ·rintro w' ⟨s0, s1⟩
            go_simp
            with_reducible rfl
           rotate_left
           ·simp only [Act.put, sA_, sB_, sC_, i64_w, i32_w]
            rfl
           refine take_ (i := 8) (N := some 117) (v := ?_) (a' := ?_) #[true, true, true, true, true, true, true, true, true, false, false, false, false, false] rfl rfl (by kernel_rfl) (fun _ _ _ h => h) (Or.inl ⟨by rfl, ?_⟩) hHeld ?_ ?_
           rotate_left
           ·rintro w' ⟨s0, s1⟩
            go_simp
            with_reducible rfl
           rotate_left
           ·simp only [Act.put, sA_, sB_, sC_, i64_w, i32_w]
            rfl
           refine one_ (i := 9) (N := some 118) #[true, true, true, true, true, true, true, true, true, true, false, false, false, false] rfl rfl (by kernel_rfl) (by decide) (fun K hK => ?_)
           refine value_ (w1 := ?_) (v := ?_) (by rfl) rfl ?_ ?_
           rotate_left 2
           ·go_simp
            constructor
            ·rfl
            ·rfl
           refine hK.out _ _ ⟨pw_cell_below (below_alloc (Below.refl wd.heap.size wd) _) z2, pw_cell_below (below_alloc (Below.refl wd.heap.size wd) _) sb⟩ (fun hHeld => ?_)
           clear hK K
           refine norm_ (a' := ?_) ?_ ?_
           rotate_left
           ·show Act.put _ (some 118) _ = _
            simp only [Act.put, sA_, sB_, sC_, i64_w, i32_w]
            rfl
           refine one_ (i := 10) (N := some 119) #[true, true, true, true, true, true, true, true, true, true, true, false, false, false] rfl rfl (by kernel_rfl) (by decide) (fun K hK => ?_)
           refine Kd.R_append_step Kd.string (w0 := w) w.heap.size (by rfl) (.tmp 113) (.tmp 118) 28 9 (.string ⟨#[]⟩) 16 (by rfl) Tryd.underlying28 info9 rfl (by decide) (by omega) (.slice A2 (rd_T52 out ((out.length : Int) - 1)).f2.length c2) (rd_T52 out ((out.length : Int) - 1)).f2 (rdOf ByteArray.empty l1 (k : Int)) [.string (rdOf ByteArray.empty l1 (k : Int))] (fun k => oki k ∨ wd.heap.size ≤ k) (fun _ => False) (by rfl) (by rfl) rfl (fun _ hk => hk.elim) (fun k hk => .inr hk) (Kd.R_mono HR.out (fun k hk => .inl hk)) HBD.out HBD.out.size (by have h1 := HF2.out; unfold lastE at h1; omega) ?_
           intro v3 w3 ho hb hg hat
           have HRV0 := ho
           obtain ⟨A3, c3, rfl, -, -⟩ := Kd.R_reads ho
           have HRV := Lib.hid HRV0
           have HGV := Lib.hid hg
           have HBV := Lib.hid hb
           clear ho hb hg hat HRV0
           have HNE : Hid (some g ≠ (Value.slice A2 (rd_T52 out ((out.length : Int) - 1)).f2.length c2).ownBlock) := Lib.hid (own_ne9 HR.out HZG.out)
           obtain ⟨-, -, e4, q4⟩ := last_cells (Kd.H_grown HH.out HGV.out (fun k hk => HR.out.1 k hk)) HN.out
           have q5 := q4 2
           clear q4
           obtain ⟨adb3, eb3, sb3⟩ := Kd.at_string (Kd.C_below HR1.out HBV.out) (k : Int) (by omega) (by omega)
           obtain rfl := Option.some.inj eb3
           clear eb3
           rw [Int.toNat_natCast] at sb3
           refine hK.out _ _ ⟨e4, sb3⟩ (fun hHeld => ?_)
           clear hK K
           refine norm_ (a' := ?_) ?_ ?_
           rotate_left
           ·show Act.put _ (some 119) _ = _
            simp only [Act.put, sA_, sB_, sC_, i64_w, i32_w]
            rfl
           refine pure_ (i := 11) (N := some 120) (v := ?_) (a' := ?_) #[true, true, true, true, true, true, true, true, true, true, true, true, false, false] rfl rfl (by kernel_rfl) (fun _ _ _ h => h) (Or.inl ⟨by rfl, ?_⟩) ?_ ?_
           rotate_left
           ·intro w'
            go_simp
            with_reducible rfl
           rotate_left
           ·simp only [Act.put, sA_, sB_, sC_, i64_w, i32_w]
            rfl
           refine pure_ (i := 12) (N := some 121) (v := ?_) (a' := ?_) #[true, true, true, true, true, true, true, true, true, true, true, true, true, false] rfl rfl (by kernel_rfl) (fun _ _ _ h => h) (Or.inl ⟨by rfl, ?_⟩) ?_ ?_
           rotate_left
           ·intro w'
            go_simp
            with_reducible rfl
           rotate_left
           ·simp only [Act.put, sA_, sB_, sC_, i64_w, i32_w]
            rfl
           refine last_ (i := 13) (N := none) #[true, true, true, true, true, true, true, true, true, true, true, true, true, true] rfl rfl (by kernel_rfl) (by decide) (fun K hK => ?_)
           refine skip_ (w1 := ?_) (by rfl) rfl ?_ ?_
           rotate_left
           ·go_simp
            rfl
           refine hK.out _ _ ?_
           clear hK K
           refine done_ (by kernel_rfl) ?_
           have HFIN := Lib.hid (last_add (W1 := w3) HN.out HLT.out HGV.out HR.out HRV.out HH.out (blk_lt HZG.out))
           have HT3 := Lib.hid (rows_grown 9 HTD.out HGV.out (fun k hk => by
            obtain ⟨inner, ho⟩ := Kd.R_own HR.out
            exact own_typed ho k hk) (by decide))
           go_wp2_with fail
           go_roundg k1
           case measure => have := HK1.out; omega
           case rel => exact ⟨stepAdd out (rdOf ByteArray.empty l1 (k : Int)), true, i, k + 1, rfl, by first | go_num | (rw [HVK.out]; rfl) | (simp only [HVK.out]; rfl), rfl, by omega, by omega, Lib.hid HD.out, Lib.hid (by have := HK1.out; omega), Lib.hid (by have h := HFIN.out; rw [List.length_append, List.length_singleton] at h; exact h), Lib.hid (Kd.S_set HT3.out (blk_grown HZG.out HGV.out HNE.out) (by decide) _ _), Lib.hid (below_set HBV.out (Kd.S_base HSD.out g rfl))⟩
       ·obtain rfl : k = l1.length := by omega
        have k0 := decide_eq_false (show ¬ (l1.length : Int) < (l1.length : Int) from by omega)
        have k3 : ((l1.length : Int) == (l1.length : Int)) = true := beq_self_eq_true _
        rw [if_pos (Or.inl hi2), if_neg (fun h => Nat.lt_irrefl _ h.2.1)] at hd
        cases gap
        ·skip
         have HC := Lib.hid hd
         clear hd
         obtain ⟨⟨hn1, hbn, hf2⟩, hd⟩ := dif_gap HC.out
         clear HC
         simp only [gapE, Bool.false_eq_true, if_false] at hn1 hf2 hd
         obtain ⟨out1, hout1⟩ : ∃ out1, out ++ [(⟨(i : Int), 0, []⟩ : S52)] = out1 := ⟨_, rfl⟩
         rw [hout1] at hn1 hf2 hd
         have HN := Lib.hid hn1
         have HBND := Lib.hid hbn
         have HF2 := Lib.hid hf2
         have HD := Lib.hid hd
         clear hf2 hd hbn
         obtain ⟨jn, hjn⟩ : ∃ jn : Int, wrap64 ((out1.length : Int) - 1) = jn := ⟨_, rfl⟩
         have hjv : jn = (out1.length : Int) - 1 := by rw [← hjn]; exact w64 _ (by have h1 := HBND.out; have h2 : out1.length = out.length + 1 := by { rw [← hout1]; simp }; omega)
         have hjw : IntKind.i64.wrap ((out1.length : Int) - 1) = jn := (i64_w _).trans hjn
         have n0 := eq_true (show (0 : Int) ≤ jn from by omega)
         have n1 := eq_true (show jn < (out1.length : Int) from by omega)
         have n2 : jn.toNat = out1.length - 1 := by omega
         clear hjv
         clear hn1
         go_wp2_with fail
         go_quiet (fail)
         have HS1 := Lib.hid (Kd.S_drewN HS.out nq)
         have HT1 := Lib.hid (Kd.S_drewN HT.out nq)
         have HB1 := Lib.hid (pw_below_drewN HB.out nq)
         generalize wr.drewN nq = wq at HS1 HT1 HB1 ⊢
         clear HS HT HB
         (try clear ha)
         (try clear hbb)
         go_wp2_with (first
          | ((with_reducible refine gate_builtin (b := .append) (xs := #[.tmp 61, .tmp 64]) rfl ?_); at_builtin; refine Kd.S_append k52 (w0 := w) w.heap.size rfl (.tmp 61) (.tmp 64) 29 52 (.agg #[(.int .i64 0), (.int .i64 0), (.slice none 0 0)]) 40 rfl Tryd.underlying29 info52 rfl (by decide) (by omega) u7 out ⟨(i : Int), 0, []⟩ [.int .i64 (i : Int), .int .i64 0, .slice none 0 0] (fun _ => True) (fun _ => False) rfl rfl (k52_mkM _ _ _ _ (Kd.R_nil _ _ _ _ _)) (fun _ hk => hk.elim) (fun _ _ => trivial) (Kd.S_mono HS1.out (fun _ _ => ⟨trivial, fun h => h⟩)) HB1.out HB1.out.size (by have := HBND.out; omega) ?_; intro v79 w79 ho hb hg hat; rw [hout1] at ho; have HTW := Lib.hid (rows_grown 52 HT1.out hg (se_typed HS1.out) (by decide)); have HBW := Lib.hid hb; have HSW0 := ho; obtain ⟨g, cap, rfl, -, -, -, -⟩ := Kd.S_form ho HN.out; have HSW := Lib.hid HSW0; clear ho HSW0 hb hg hat))
         have hd := HD.out
         rw [if_pos ⟨hi2, .inl (by first | trivial | rfl)⟩] at hd
         clear HD
         have HD := Lib.hid hd
         clear hd
         go_quiet (fail)
         have HSZ := Lib.hid (Kd.S_drewN HSW.out nq)
         have HTZ := Lib.hid (Kd.S_drewN HTW.out nq)
         have HBZ := Lib.hid (pw_below_drewN HBW.out nq)
         generalize w79.drewN nq = wz at HSZ HTZ HBZ ⊢
         clear HSW HTW HBW
         obtain ⟨oki, v2, hR, hlt, hH⟩ := last_get HSZ.out HN.out
         obtain ⟨z0, z1, z2, zf⟩ := last_cells hH HN.out
         have z1f := zf 1
         have HR := Lib.hid hR
         have HH := Lib.hid hH
         clear hR hlt hH zf z0 z2
         obtain ⟨cz, hz⟩ := se_typed HSZ.out g rfl
         have HZG := Lib.hid hz
         clear hz
         go_wp2_with fail
         go_roundg k1
         case measure => have := HK1.out; omega
         case rel => exact ⟨stepDel out1, true, i + 1, l1.length, by first | go_num | (rw [HVI.out]; rfl) | (simp only [HVI.out]; rfl), rfl, rfl, by omega, by omega, Lib.hid HD.out, Lib.hid (by have := HK1.out; omega), Lib.hid (last_bump HN.out HR.out HH.out _), Lib.hid (Kd.S_set HTZ.out HZG.out (by decide) _ _), Lib.hid (below_set HBZ.out (Kd.S_base HSZ.out g rfl))⟩
        ·skip
         have HC := Lib.hid hd
         clear hd
         obtain ⟨⟨hn1, hbn, hf2⟩, hd⟩ := dif_gap HC.out
         clear HC
         simp only [gapE, if_true] at hn1 hf2 hd
         obtain ⟨g, cap, rfl, -, -, -, -⟩ := Kd.S_form HS.out hn1
         have HN := Lib.hid hn1
         have HF2 := Lib.hid hf2
         have HD := Lib.hid hd
         clear hf2 hd
         obtain ⟨out1, hout1⟩ : ∃ out1, out = out1 := ⟨_, rfl⟩
         subst hout1
         obtain ⟨jn, hjn⟩ : ∃ jn : Int, wrap64 ((out.length : Int) - 1) = jn := ⟨_, rfl⟩
         have hjv : jn = (out.length : Int) - 1 := by rw [← hjn]; exact w64 _ (by omega)
         have hjw : IntKind.i64.wrap ((out.length : Int) - 1) = jn := (i64_w _).trans hjn
         have n0 := eq_true (show (0 : Int) ≤ jn from by omega)
         have n1 := eq_true (show jn < (out.length : Int) from by omega)
         have n2 : jn.toNat = out.length - 1 := by omega
         clear hjv
         clear hn1
         go_wp2_with fail
         go_quiet (fail)
         have HS1 := Lib.hid (Kd.S_drewN HS.out nq)
         have HT1 := Lib.hid (Kd.S_drewN HT.out nq)
         have HB1 := Lib.hid (pw_below_drewN HB.out nq)
         generalize wr.drewN nq = wq at HS1 HT1 HB1 ⊢
         clear HS HT HB
         (try clear ha)
         (try clear hbb)
         have HSW := HS1
         have HTW := HT1
         have HBW := HB1
         clear HS1 HT1 HB1
         go_wp2_with fail
         have hd := HD.out
         rw [if_pos ⟨hi2, .inl (by first | trivial | rfl)⟩] at hd
         clear HD
         have HD := Lib.hid hd
         clear hd
         go_quiet (fail)
         have HSZ := Lib.hid (Kd.S_drewN HSW.out nq)
         have HTZ := Lib.hid (Kd.S_drewN HTW.out nq)
         have HBZ := Lib.hid (pw_below_drewN HBW.out nq)
         generalize wq.drewN nq = wz at HSZ HTZ HBZ ⊢
         clear HSW HTW HBW
         obtain ⟨oki, v2, hR, hlt, hH⟩ := last_get HSZ.out HN.out
         obtain ⟨z0, z1, z2, zf⟩ := last_cells hH HN.out
         have z1f := zf 1
         have HR := Lib.hid hR
         have HH := Lib.hid hH
         clear hR hlt hH zf z0 z2
         obtain ⟨cz, hz⟩ := se_typed HSZ.out g rfl
         have HZG := Lib.hid hz
         clear hz
         go_wp2_with fail
         go_roundg k1
         case measure => have := HK1.out; omega
         case rel => exact ⟨stepDel out, true, i + 1, l1.length, by first | go_num | (rw [HVI.out]; rfl) | (simp only [HVI.out]; rfl), rfl, rfl, by omega, by omega, Lib.hid HD.out, Lib.hid (by have := HK1.out; omega), Lib.hid (last_bump HN.out HR.out HH.out _), Lib.hid (Kd.S_set HTZ.out HZG.out (by decide) _ _), Lib.hid (below_set HBZ.out (Kd.S_base HSZ.out g rfl))⟩
      ·obtain rfl : i = l0.length := by omega
       have i0 := decide_eq_false (show ¬ (l0.length : Int) < (l0.length : Int) from by omega)
       by_cases hk2 : k < l1.length
       ·have k0 := decide_eq_true (show (k : Int) < (l1.length : Int) from by omega)
        have k01 := eq_true (show (k : Int) < (l1.length : Int) from by omega)
        have k02 := eq_true (show (0 : Int) ≤ (k : Int) from by omega)
        have k3 : ((k : Int) == (l1.length : Int)) = false := beq_eq_false_iff_ne.mpr (by omega)
        obtain ⟨adb, eb, hbb⟩ := Kd.at_string (Kd.C_below HR1.out HB.out) (k : Int) (by omega) (by omega)
        subst eb
        rw [if_pos (Or.inr hk2), if_neg (fun h => Nat.lt_irrefl _ h.1)] at hd
        cases gap
        ·skip
         have HC := Lib.hid hd
         clear hd
         obtain ⟨⟨hn1, hbn, hf2⟩, hd⟩ := dif_gap HC.out
         clear HC
         simp only [gapE, Bool.false_eq_true, if_false] at hn1 hf2 hd
         obtain ⟨out1, hout1⟩ : ∃ out1, out ++ [(⟨(l0.length : Int), 0, []⟩ : S52)] = out1 := ⟨_, rfl⟩
         rw [hout1] at hn1 hf2 hd
         have HN := Lib.hid hn1
         have HBND := Lib.hid hbn
         have HF2 := Lib.hid hf2
         have HD := Lib.hid hd
         clear hf2 hd hbn
         obtain ⟨jn, hjn⟩ : ∃ jn : Int, wrap64 ((out1.length : Int) - 1) = jn := ⟨_, rfl⟩
         have hjv : jn = (out1.length : Int) - 1 := by rw [← hjn]; exact w64 _ (by have h1 := HBND.out; have h2 : out1.length = out.length + 1 := by { rw [← hout1]; simp }; omega)
         have hjw : IntKind.i64.wrap ((out1.length : Int) - 1) = jn := (i64_w _).trans hjn
         have n0 := eq_true (show (0 : Int) ≤ jn from by omega)
         have n1 := eq_true (show jn < (out1.length : Int) from by omega)
         have n2 : jn.toNat = out1.length - 1 := by omega
         clear hjv
         clear hn1
         go_wp2_with fail
         go_quiet (fail)
         have HS1 := Lib.hid (Kd.S_drewN HS.out nq)
         have HT1 := Lib.hid (Kd.S_drewN HT.out nq)
         have HB1 := Lib.hid (pw_below_drewN HB.out nq)
         generalize wr.drewN nq = wq at HS1 HT1 HB1 ⊢
         clear HS HT HB
         (try clear ha)
         (try clear hbb)
         go_wp2_with (first
          | ((with_reducible refine gate_builtin (b := .append) (xs := #[.tmp 61, .tmp 64]) rfl ?_); at_builtin; refine Kd.S_append k52 (w0 := w) w.heap.size rfl (.tmp 61) (.tmp 64) 29 52 (.agg #[(.int .i64 0), (.int .i64 0), (.slice none 0 0)]) 40 rfl Tryd.underlying29 info52 rfl (by decide) (by omega) u7 out ⟨(l0.length : Int), 0, []⟩ [.int .i64 (l0.length : Int), .int .i64 0, .slice none 0 0] (fun _ => True) (fun _ => False) rfl rfl (k52_mkM _ _ _ _ (Kd.R_nil _ _ _ _ _)) (fun _ hk => hk.elim) (fun _ _ => trivial) (Kd.S_mono HS1.out (fun _ _ => ⟨trivial, fun h => h⟩)) HB1.out HB1.out.size (by have := HBND.out; omega) ?_; intro v79 w79 ho hb hg hat; rw [hout1] at ho; have HTW := Lib.hid (rows_grown 52 HT1.out hg (se_typed HS1.out) (by decide)); have HBW := Lib.hid hb; have HSW0 := ho; obtain ⟨g, cap, rfl, -, -, -, -⟩ := Kd.S_form ho HN.out; have HSW := Lib.hid HSW0; clear ho HSW0 hb hg hat))
         have hd := HD.out
         rw [if_neg (fun h => Nat.lt_irrefl _ h.1)] at hd
         clear HD
         have HD := Lib.hid hd
         clear hd
         go_quiet (fail)
         have HSZ := Lib.hid (Kd.S_drewN HSW.out nq)
         have HTZ := Lib.hid (Kd.S_drewN HTW.out nq)
         have HBZ := Lib.hid (pw_below_drewN HBW.out nq)
         generalize w79.drewN nq = wz at HSZ HTZ HBZ ⊢
         clear HSW HTW HBW
         have HSD := Lib.hid (Kd.S_drew HSZ.out)
         have HTD := Lib.hid (Kd.S_drew HTZ.out)
         have HBD := Lib.hid (below_drew HBZ.out)
         obtain ⟨oki, v2, hR, hlt, hH⟩ := last_get HSD.out HN.out
         obtain ⟨A2, c2, rfl, -, -⟩ := Kd.R_reads hR
         have HH := Lib.hid hH
         obtain ⟨z0, z1, z2, zf⟩ := last_cells hH HN.out
         have HR := Lib.hid hR
         have HLT := Lib.hid hlt
         clear hR hlt hH zf z0 z1
         obtain ⟨adb', eb', sb⟩ := Kd.at_string (Kd.C_below HR1.out HBD.out) (k : Int) (by omega) (by omega)
         obtain rfl := Option.some.inj eb'
         rw [Int.toNat_natCast] at sb
         clear eb'
         obtain ⟨cz, hz⟩ := se_typed HSD.out g rfl
         have HZG := Lib.hid hz
         clear hz
         go_wp2_with fail
         refine start_ (n := 14) (S := fun w' => w'.cell? ⟨g, (out1.length - 1) * 3 + 2, none⟩ = some (.slice A2 (rd_T52 out1 ((out1.length : Int) - 1)).f2.length c2) ∧ w'.cell? (adb.add k) = some (.string (rdOf ByteArray.empty l1 (k : Int)))) (ds := [13]) #[false, false, false, false, false, false, false, false, false, false, false, false, false, false] (by kernel_rfl) rfl rfl ⟨z2, sb⟩ (fun hHeld => ?_)
         generalize wz.drew = wd at HSD HTD HBD HH HR HLT HZG z2 sb hHeld ⊢
         refine pure_ (i := 0) (N := some 109) (v := ?_) (a' := ?_) #[true, false, false, false, false, false, false, false, false, false, false, false, false, false] rfl rfl (by kernel_rfl) (fun _ _ _ h => h) (Or.inl ⟨by rfl, ?_⟩) ?_ ?_
         rotate_left
         ·intro w'
          go_simp
          with_reducible rfl
         rotate_left
         ·simp only [Act.put, sA_, sB_, sC_, i64_w, i32_w]
          rfl
         refine pure_ (i := 1) (N := some 110) (v := ?_) (a' := ?_) #[true, true, false, false, false, false, false, false, false, false, false, false, false, false] rfl rfl (by kernel_rfl) (fun _ _ _ h => h) (Or.inl ⟨by rfl, ?_⟩) ?_ ?_
         rotate_left
         ·intro w'
          go_simp
          with_reducible rfl
         rotate_left
         ·simp only [Act.put, sA_, sB_, sC_, i64_w, i32_w]
          rfl
         refine pure_ (i := 2) (N := some 111) (v := ?_) (a' := ?_) #[true, true, true, false, false, false, false, false, false, false, false, false, false, false] rfl rfl (by kernel_rfl) (fun _ _ _ h => h) (Or.inl ⟨by rfl, ?_⟩) ?_ ?_
         rotate_left
         ·intro w'
          go_simp
          with_reducible rfl
         rotate_left
         ·simp only [Act.put, sA_, sB_, sC_, i64_w, i32_w]
          rfl
         refine pure_ (i := 3) (N := some 112) (v := ?_) (a' := ?_) #[true, true, true, true, false, false, false, false, false, false, false, false, false, false] rfl rfl (by kernel_rfl) (fun _ _ _ h => h) (Or.inl ⟨by rfl, ?_⟩) ?_ ?_
         rotate_left
         ·intro w'
          go_simp
          with_reducible rfl
         rotate_left
         ·simp only [Act.put, sA_, sB_, sC_, i64_w, i32_w]
          rfl
         refine pure_ (i := 5) (N := some 114) (v := ?_) (a' := ?_) #[true, true, true, true, false, true, false, false, false, false, false, false, false, false] rfl rfl (by kernel_rfl) (fun _ _ _ h => h) (Or.inl ⟨by rfl, ?_⟩) ?_ ?_
         rotate_left
         ·intro w'
          go_simp
          with_reducible rfl
         rotate_left
         ·simp only [Act.put, sA_, sB_, sC_, i64_w, i32_w]
          rfl
         refine pure_ (i := 6) (N := some 115) (v := ?_) (a' := ?_) #[true, true, true, true, false, true, true, false, false, false, false, false, false, false] rfl rfl (by kernel_rfl) (fun _ _ _ h => h) (Or.inl ⟨by rfl, ?_⟩) ?_ ?_
         rotate_left
         ·intro w'
          go_simp
          with_reducible rfl
         rotate_left
         ·simp only [Act.put, sA_, sB_, sC_, i64_w, i32_w]
          rfl
         refine pure_ (i := 7) (N := some 116) (v := ?_) (a' := ?_) #[true, true, true, true, false, true, true, true, false, false, false, false, false, false] rfl rfl (by kernel_rfl) (fun _ _ _ h => h) (Or.inl ⟨by rfl, ?_⟩) ?_ ?_
         rotate_left
         ·intro w'
          go_simp
          with_reducible rfl
         rotate_left
         ·simp only [Act.put, sA_, sB_, sC_, i64_w, i32_w]
          rfl
         refine take_ (i := 4) (N := some 113) (v := ?_) (a' := ?_) #[true, true, true, true, true, true, true, true, false, false, false, false, false, false] rfl rfl (by kernel_rfl) (fun _ _ _ h => h) (Or.inl ⟨by rfl, ?_⟩) hHeld ?_ ?_
         rotate_left
         ·rintro w' ⟨s0, s1⟩
          go_simp
          with_reducible rfl
         rotate_left
         ·simp only [Act.put, sA_, sB_, sC_, i64_w, i32_w]
          rfl
         refine take_ (i := 8) (N := some 117) (v := ?_) (a' := ?_) #[true, true, true, true, true, true, true, true, true, false, false, false, false, false] rfl rfl (by kernel_rfl) (fun _ _ _ h => h) (Or.inl ⟨by rfl, ?_⟩) hHeld ?_ ?_
         rotate_left
         ·rintro w' ⟨s0, s1⟩
          go_simp
          with_reducible rfl
         rotate_left
         ·simp only [Act.put, sA_, sB_, sC_, i64_w, i32_w]
          rfl
         refine one_ (i := 9) (N := some 118) #[true, true, true, true, true, true, true, true, true, true, false, false, false, false] rfl rfl (by kernel_rfl) (by decide) (fun K hK => ?_)
         refine value_ (w1 := ?_) (v := ?_) (by rfl) rfl ?_ ?_
         rotate_left 2
         ·go_simp
          constructor
          ·rfl
          ·rfl
         refine hK.out _ _ ⟨pw_cell_below (below_alloc (Below.refl wd.heap.size wd) _) z2, pw_cell_below (below_alloc (Below.refl wd.heap.size wd) _) sb⟩ (fun hHeld => ?_)
         clear hK K
         refine norm_ (a' := ?_) ?_ ?_
         rotate_left
         ·show Act.put _ (some 118) _ = _
          simp only [Act.put, sA_, sB_, sC_, i64_w, i32_w]
          rfl
         refine one_ (i := 10) (N := some 119) #[true, true, true, true, true, true, true, true, true, true, true, false, false, false] rfl rfl (by kernel_rfl) (by decide) (fun K hK => ?_)
         refine Kd.R_append_step Kd.string (w0 := w) w.heap.size (by rfl) (.tmp 113) (.tmp 118) 28 9 (.string ⟨#[]⟩) 16 (by rfl) Tryd.underlying28 info9 rfl (by decide) (by omega) (.slice A2 (rd_T52 out1 ((out1.length : Int) - 1)).f2.length c2) (rd_T52 out1 ((out1.length : Int) - 1)).f2 (rdOf ByteArray.empty l1 (k : Int)) [.string (rdOf ByteArray.empty l1 (k : Int))] (fun k => oki k ∨ wd.heap.size ≤ k) (fun _ => False) (by rfl) (by rfl) rfl (fun _ hk => hk.elim) (fun k hk => .inr hk) (Kd.R_mono HR.out (fun k hk => .inl hk)) HBD.out HBD.out.size (by have h1 := HF2.out; unfold lastE at h1; omega) ?_
         intro v3 w3 ho hb hg hat
         have HRV0 := ho
         obtain ⟨A3, c3, rfl, -, -⟩ := Kd.R_reads ho
         have HRV := Lib.hid HRV0
         have HGV := Lib.hid hg
         have HBV := Lib.hid hb
         clear ho hb hg hat HRV0
         have HNE : Hid (some g ≠ (Value.slice A2 (rd_T52 out1 ((out1.length : Int) - 1)).f2.length c2).ownBlock) := Lib.hid (own_ne9 HR.out HZG.out)
         obtain ⟨-, -, e4, q4⟩ := last_cells (Kd.H_grown HH.out HGV.out (fun k hk => HR.out.1 k hk)) HN.out
         have q5 := q4 2
         clear q4
         obtain ⟨adb3, eb3, sb3⟩ := Kd.at_string (Kd.C_below HR1.out HBV.out) (k : Int) (by omega) (by omega)
         obtain rfl := Option.some.inj eb3
         clear eb3
         rw [Int.toNat_natCast] at sb3
         refine hK.out _ _ ⟨e4, sb3⟩ (fun hHeld => ?_)
         clear hK K
         refine norm_ (a' := ?_) ?_ ?_
         rotate_left
         ·show Act.put _ (some 119) _ = _
          simp only [Act.put, sA_, sB_, sC_, i64_w, i32_w]
          rfl
         refine pure_ (i := 11) (N := some 120) (v := ?_) (a' := ?_) #[true, true, true, true, true, true, true, true, true, true, true, true, false, false] rfl rfl (by kernel_rfl) (fun _ _ _ h => h) (Or.inl ⟨by rfl, ?_⟩) ?_ ?_
         rotate_left
         ·intro w'
          go_simp
          with_reducible rfl
         rotate_left
         ·simp only [Act.put, sA_, sB_, sC_, i64_w, i32_w]
          rfl
         refine pure_ (i := 12) (N := some 121) (v := ?_) (a' := ?_) #[true, true, true, true, true, true, true, true, true, true, true, true, true, false] rfl rfl (by kernel_rfl) (fun _ _ _ h => h) (Or.inl ⟨by rfl, ?_⟩) ?_ ?_
         rotate_left
         ·intro w'
          go_simp
          with_reducible rfl
         rotate_left
         ·simp only [Act.put, sA_, sB_, sC_, i64_w, i32_w]
          rfl
         refine last_ (i := 13) (N := none) #[true, true, true, true, true, true, true, true, true, true, true, true, true, true] rfl rfl (by kernel_rfl) (by decide) (fun K hK => ?_)
         refine skip_ (w1 := ?_) (by rfl) rfl ?_ ?_
         rotate_left
         ·go_simp
          rfl
         refine hK.out _ _ ?_
         clear hK K
         refine done_ (by kernel_rfl) ?_
         have HFIN := Lib.hid (last_add (W1 := w3) HN.out HLT.out HGV.out HR.out HRV.out HH.out (blk_lt HZG.out))
         have HT3 := Lib.hid (rows_grown 9 HTD.out HGV.out (fun k hk => by
          obtain ⟨inner, ho⟩ := Kd.R_own HR.out
          exact own_typed ho k hk) (by decide))
         go_wp2_with fail
         go_roundg k1
         case measure => have := HK1.out; omega
         case rel => exact ⟨stepAdd out1 (rdOf ByteArray.empty l1 (k : Int)), true, l0.length, k + 1, rfl, by first | go_num | (rw [HVK.out]; rfl) | (simp only [HVK.out]; rfl), rfl, by omega, by omega, Lib.hid HD.out, Lib.hid (by have := HK1.out; omega), Lib.hid (by have h := HFIN.out; rw [List.length_append, List.length_singleton] at h; exact h), Lib.hid (Kd.S_set HT3.out (blk_grown HZG.out HGV.out HNE.out) (by decide) _ _), Lib.hid (below_set HBV.out (Kd.S_base HSD.out g rfl))⟩
        ·skip
         have HC := Lib.hid hd
         clear hd
         obtain ⟨⟨hn1, hbn, hf2⟩, hd⟩ := dif_gap HC.out
         clear HC
         simp only [gapE, if_true] at hn1 hf2 hd
         obtain ⟨g, cap, rfl, -, -, -, -⟩ := Kd.S_form HS.out hn1
         have HN := Lib.hid hn1
         have HF2 := Lib.hid hf2
         have HD := Lib.hid hd
         clear hf2 hd
         obtain ⟨out1, hout1⟩ : ∃ out1, out = out1 := ⟨_, rfl⟩
         subst hout1
         obtain ⟨jn, hjn⟩ : ∃ jn : Int, wrap64 ((out.length : Int) - 1) = jn := ⟨_, rfl⟩
         have hjv : jn = (out.length : Int) - 1 := by rw [← hjn]; exact w64 _ (by omega)
         have hjw : IntKind.i64.wrap ((out.length : Int) - 1) = jn := (i64_w _).trans hjn
         have n0 := eq_true (show (0 : Int) ≤ jn from by omega)
         have n1 := eq_true (show jn < (out.length : Int) from by omega)
         have n2 : jn.toNat = out.length - 1 := by omega
         clear hjv
         clear hn1
         go_wp2_with fail
         go_quiet (fail)
         have HS1 := Lib.hid (Kd.S_drewN HS.out nq)
         have HT1 := Lib.hid (Kd.S_drewN HT.out nq)
         have HB1 := Lib.hid (pw_below_drewN HB.out nq)
         generalize wr.drewN nq = wq at HS1 HT1 HB1 ⊢
         clear HS HT HB
         (try clear ha)
         (try clear hbb)
         have HSW := HS1
         have HTW := HT1
         have HBW := HB1
         clear HS1 HT1 HB1
         go_wp2_with fail
         have hd := HD.out
         rw [if_neg (fun h => Nat.lt_irrefl _ h.1)] at hd
         clear HD
         have HD := Lib.hid hd
         clear hd
         go_quiet (fail)
         have HSZ := Lib.hid (Kd.S_drewN HSW.out nq)
         have HTZ := Lib.hid (Kd.S_drewN HTW.out nq)
         have HBZ := Lib.hid (pw_below_drewN HBW.out nq)
         generalize wq.drewN nq = wz at HSZ HTZ HBZ ⊢
         clear HSW HTW HBW
         have HSD := Lib.hid (Kd.S_drew HSZ.out)
         have HTD := Lib.hid (Kd.S_drew HTZ.out)
         have HBD := Lib.hid (below_drew HBZ.out)
         obtain ⟨oki, v2, hR, hlt, hH⟩ := last_get HSD.out HN.out
         obtain ⟨A2, c2, rfl, -, -⟩ := Kd.R_reads hR
         have HH := Lib.hid hH
         obtain ⟨z0, z1, z2, zf⟩ := last_cells hH HN.out
         have HR := Lib.hid hR
         have HLT := Lib.hid hlt
         clear hR hlt hH zf z0 z1
         obtain ⟨adb', eb', sb⟩ := Kd.at_string (Kd.C_below HR1.out HBD.out) (k : Int) (by omega) (by omega)
         obtain rfl := Option.some.inj eb'
         rw [Int.toNat_natCast] at sb
         clear eb'
         obtain ⟨cz, hz⟩ := se_typed HSD.out g rfl
         have HZG := Lib.hid hz
         clear hz
         go_wp2_with fail
         refine start_ (n := 14) (S := fun w' => w'.cell? ⟨g, (out.length - 1) * 3 + 2, none⟩ = some (.slice A2 (rd_T52 out ((out.length : Int) - 1)).f2.length c2) ∧ w'.cell? (adb.add k) = some (.string (rdOf ByteArray.empty l1 (k : Int)))) (ds := [13]) #[false, false, false, false, false, false, false, false, false, false, false, false, false, false] (by kernel_rfl) rfl rfl ⟨z2, sb⟩ (fun hHeld => ?_)
         generalize wz.drew = wd at HSD HTD HBD HH HR HLT HZG z2 sb hHeld ⊢
         refine pure_ (i := 0) (N := some 109) (v := ?_) (a' := ?_) #[true, false, false, false, false, false, false, false, false, false, false, false, false, false] rfl rfl (by kernel_rfl) (fun _ _ _ h => h) (Or.inl ⟨by rfl, ?_⟩) ?_ ?_
         rotate_left
         ·intro w'
          go_simp
          with_reducible rfl
         rotate_left
         ·simp only [Act.put, sA_, sB_, sC_, i64_w, i32_w]
          rfl
         refine pure_ (i := 1) (N := some 110) (v := ?_) (a' := ?_) #[true, true, false, false, false, false, false, false, false, false, false, false, false, false] rfl rfl (by kernel_rfl) (fun _ _ _ h => h) (Or.inl ⟨by rfl, ?_⟩) ?_ ?_
         rotate_left
         ·intro w'
          go_simp
          with_reducible rfl
         rotate_left
         ·simp only [Act.put, sA_, sB_, sC_, i64_w, i32_w]
          rfl
         refine pure_ (i := 2) (N := some 111) (v := ?_) (a' := ?_) #[true, true, true, false, false, false, false, false, false, false, false, false, false, false] rfl rfl (by kernel_rfl) (fun _ _ _ h => h) (Or.inl ⟨by rfl, ?_⟩) ?_ ?_
         rotate_left
         ·intro w'
          go_simp
          with_reducible rfl
         rotate_left
         ·simp only [Act.put, sA_, sB_, sC_, i64_w, i32_w]
          rfl
         refine pure_ (i := 3) (N := some 112) (v := ?_) (a' := ?_) #[true, true, true, true, false, false, false, false, false, false, false, false, false, false] rfl rfl (by kernel_rfl) (fun _ _ _ h => h) (Or.inl ⟨by rfl, ?_⟩) ?_ ?_
         rotate_left
         ·intro w'
          go_simp
          with_reducible rfl
         rotate_left
         ·simp only [Act.put, sA_, sB_, sC_, i64_w, i32_w]
          rfl
         refine pure_ (i := 5) (N := some 114) (v := ?_) (a' := ?_) #[true, true, true, true, false, true, false, false, false, false, false, false, false, false] rfl rfl (by kernel_rfl) (fun _ _ _ h => h) (Or.inl ⟨by rfl, ?_⟩) ?_ ?_
         rotate_left
         ·intro w'
          go_simp
          with_reducible rfl
         rotate_left
         ·simp only [Act.put, sA_, sB_, sC_, i64_w, i32_w]
          rfl
         refine pure_ (i := 6) (N := some 115) (v := ?_) (a' := ?_) #[true, true, true, true, false, true, true, false, false, false, false, false, false, false] rfl rfl (by kernel_rfl) (fun _ _ _ h => h) (Or.inl ⟨by rfl, ?_⟩) ?_ ?_
         rotate_left
         ·intro w'
          go_simp
          with_reducible rfl
         rotate_left
         ·simp only [Act.put, sA_, sB_, sC_, i64_w, i32_w]
          rfl
         refine pure_ (i := 7) (N := some 116) (v := ?_) (a' := ?_) #[true, true, true, true, false, true, true, true, false, false, false, false, false, false] rfl rfl (by kernel_rfl) (fun _ _ _ h => h) (Or.inl ⟨by rfl, ?_⟩) ?_ ?_
         rotate_left
         ·intro w'
          go_simp
          with_reducible rfl
         rotate_left
         ·simp only [Act.put, sA_, sB_, sC_, i64_w, i32_w]
          rfl
         refine take_ (i := 4) (N := some 113) (v := ?_) (a' := ?_) #[true, true, true, true, true, true, true, true, false, false, false, false, false, false] rfl rfl (by kernel_rfl) (fun _ _ _ h => h) (Or.inl ⟨by rfl, ?_⟩) hHeld ?_ ?_
         rotate_left
         ·rintro w' ⟨s0, s1⟩
          go_simp
          with_reducible rfl
         rotate_left
         ·simp only [Act.put, sA_, sB_, sC_, i64_w, i32_w]
          rfl
         refine take_ (i := 8) (N := some 117) (v := ?_) (a' := ?_) #[true, true, true, true, true, true, true, true, true, false, false, false, false, false] rfl rfl (by kernel_rfl) (fun _ _ _ h => h) (Or.inl ⟨by rfl, ?_⟩) hHeld ?_ ?_
         rotate_left
         ·rintro w' ⟨s0, s1⟩
          go_simp
          with_reducible rfl
         rotate_left
         ·simp only [Act.put, sA_, sB_, sC_, i64_w, i32_w]
          rfl
         refine one_ (i := 9) (N := some 118) #[true, true, true, true, true, true, true, true, true, true, false, false, false, false] rfl rfl (by kernel_rfl) (by decide) (fun K hK => ?_)
         refine value_ (w1 := ?_) (v := ?_) (by rfl) rfl ?_ ?_
         rotate_left 2
         ·go_simp
          constructor
          ·rfl
          ·rfl
         refine hK.out _ _ ⟨pw_cell_below (below_alloc (Below.refl wd.heap.size wd) _) z2, pw_cell_below (below_alloc (Below.refl wd.heap.size wd) _) sb⟩ (fun hHeld => ?_)
         clear hK K
         refine norm_ (a' := ?_) ?_ ?_
         rotate_left
         ·show Act.put _ (some 118) _ = _
          simp only [Act.put, sA_, sB_, sC_, i64_w, i32_w]
          rfl
         refine one_ (i := 10) (N := some 119) #[true, true, true, true, true, true, true, true, true, true, true, false, false, false] rfl rfl (by kernel_rfl) (by decide) (fun K hK => ?_)
         refine Kd.R_append_step Kd.string (w0 := w) w.heap.size (by rfl) (.tmp 113) (.tmp 118) 28 9 (.string ⟨#[]⟩) 16 (by rfl) Tryd.underlying28 info9 rfl (by decide) (by omega) (.slice A2 (rd_T52 out ((out.length : Int) - 1)).f2.length c2) (rd_T52 out ((out.length : Int) - 1)).f2 (rdOf ByteArray.empty l1 (k : Int)) [.string (rdOf ByteArray.empty l1 (k : Int))] (fun k => oki k ∨ wd.heap.size ≤ k) (fun _ => False) (by rfl) (by rfl) rfl (fun _ hk => hk.elim) (fun k hk => .inr hk) (Kd.R_mono HR.out (fun k hk => .inl hk)) HBD.out HBD.out.size (by have h1 := HF2.out; unfold lastE at h1; omega) ?_
         intro v3 w3 ho hb hg hat
         have HRV0 := ho
         obtain ⟨A3, c3, rfl, -, -⟩ := Kd.R_reads ho
         have HRV := Lib.hid HRV0
         have HGV := Lib.hid hg
         have HBV := Lib.hid hb
         clear ho hb hg hat HRV0
         have HNE : Hid (some g ≠ (Value.slice A2 (rd_T52 out ((out.length : Int) - 1)).f2.length c2).ownBlock) := Lib.hid (own_ne9 HR.out HZG.out)
         obtain ⟨-, -, e4, q4⟩ := last_cells (Kd.H_grown HH.out HGV.out (fun k hk => HR.out.1 k hk)) HN.out
         have q5 := q4 2
         clear q4
         obtain ⟨adb3, eb3, sb3⟩ := Kd.at_string (Kd.C_below HR1.out HBV.out) (k : Int) (by omega) (by omega)
         obtain rfl := Option.some.inj eb3
         clear eb3
         rw [Int.toNat_natCast] at sb3
         refine hK.out _ _ ⟨e4, sb3⟩ (fun hHeld => ?_)
         clear hK K
         refine norm_ (a' := ?_) ?_ ?_
         rotate_left
         ·show Act.put _ (some 119) _ = _
          simp only [Act.put, sA_, sB_, sC_, i64_w, i32_w]
          rfl
         refine pure_ (i := 11) (N := some 120) (v := ?_) (a' := ?_) #[true, true, true, true, true, true, true, true, true, true, true, true, false, false] rfl rfl (by kernel_rfl) (fun _ _ _ h => h) (Or.inl ⟨by rfl, ?_⟩) ?_ ?_
         rotate_left
         ·intro w'
          go_simp
          with_reducible rfl
         rotate_left
         ·simp only [Act.put, sA_, sB_, sC_, i64_w, i32_w]
          rfl
         refine pure_ (i := 12) (N := some 121) (v := ?_) (a' := ?_) #[true, true, true, true, true, true, true, true, true, true, true, true, true, false] rfl rfl (by kernel_rfl) (fun _ _ _ h => h) (Or.inl ⟨by rfl, ?_⟩) ?_ ?_
         rotate_left
         ·intro w'
          go_simp
          with_reducible rfl
         rotate_left
         ·simp only [Act.put, sA_, sB_, sC_, i64_w, i32_w]
          rfl
         refine last_ (i := 13) (N := none) #[true, true, true, true, true, true, true, true, true, true, true, true, true, true] rfl rfl (by kernel_rfl) (by decide) (fun K hK => ?_)
         refine skip_ (w1 := ?_) (by rfl) rfl ?_ ?_
         rotate_left
         ·go_simp
          rfl
         refine hK.out _ _ ?_
         clear hK K
         refine done_ (by kernel_rfl) ?_
         have HFIN := Lib.hid (last_add (W1 := w3) HN.out HLT.out HGV.out HR.out HRV.out HH.out (blk_lt HZG.out))
         have HT3 := Lib.hid (rows_grown 9 HTD.out HGV.out (fun k hk => by
          obtain ⟨inner, ho⟩ := Kd.R_own HR.out
          exact own_typed ho k hk) (by decide))
         go_wp2_with fail
         go_roundg k1
         case measure => have := HK1.out; omega
         case rel => exact ⟨stepAdd out (rdOf ByteArray.empty l1 (k : Int)), true, l0.length, k + 1, rfl, by first | go_num | (rw [HVK.out]; rfl) | (simp only [HVK.out]; rfl), rfl, by omega, by omega, Lib.hid HD.out, Lib.hid (by have := HK1.out; omega), Lib.hid (by have h := HFIN.out; rw [List.length_append, List.length_singleton] at h; exact h), Lib.hid (Kd.S_set HT3.out (blk_grown HZG.out HGV.out HNE.out) (by decide) _ _), Lib.hid (below_set HBV.out (Kd.S_base HSD.out g rfl))⟩
       ·obtain rfl : k = l1.length := by omega
        have k0 := decide_eq_false (show ¬ (l1.length : Int) < (l1.length : Int) from by omega)
        rw [if_neg (fun h => h.elim (Nat.lt_irrefl _) (Nat.lt_irrefl _))] at hd
        obtain rfl := Option.some.inj hd
        go_wp2_with fail
        go_ret2
        exact ⟨_, rfl, HS.out, HB.out⟩
   ·rw [if_neg hsh] at h
    exact absurd h (by simp)
  ·rw [if_neg hz1] at h
   obtain rfl : e1 = false := by simpa using hz1
   clear hz1
   simp only [Option.some.injEq, Prod.mk.injEq] at h
   obtain ⟨rfl, rfl⟩ := h
   go_wp2_with fail
   go_ret2
   exact ⟨_, rfl, Kd.S_nil _ _ _ _ _, HB2.out⟩
 ·rw [if_neg hz0] at h
  obtain rfl : e0 = false := by simpa using hz0
  clear hz0
  simp only [Option.some.injEq, Prod.mk.injEq] at h
  obtain ⟨rfl, rfl⟩ := h
  go_wp2_with fail
  refine (salchowref49_Lines.calls K A0 c0 l0 _ w HR0.out hc0 E0.out).mono ?_
  rintro e w1 ⟨rfl, hd1⟩
  have HB1 := Lib.hid hd1.below
  clear hd1
  go_wp2_with fail
  go_ret2
  exact ⟨_, rfl, Kd.S_nil _ _ _ _ _, HB1.out⟩
end Go.Proofs.YtfpopmojlmpopaaDoor.H

end
