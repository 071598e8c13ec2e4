/-
  Part 7 of the proof: words about memory and rows, functions of the program as Lean functions with the contracts that its code comes to just their answers, and plain lemmas; no conditions of its own.
-/
import Derived.Test.YtfpopmojlmpopaaDoorBSm6
section
namespace Go.Proofs.YtfpopmojlmpopaaDoor.H
open Go.RowKit Go.Proofs.YtfpopmojlmpopaaDoorW.PrintWords Go.Proofs.YtfpopmojlmpopaaDoorW.PrintLast Go.Proofs.YtfpopmojlmpopaaDoorW.PrintMore Go.Proofs.YtfpopmojlmpopaaDoor.G Go.Proofs.YtfpopmojlmpopaaDoor.L
set_option linter.unusedVariables false
set_option linter.unusedSimpArgs false
theorem R_emptyB {W : World} {b : Nat} (hb : b ≤ W.heap.size) : Kd.R (Kd.int .u8) 5 (W.alloc (Obj.cells #[] 5)) b (fun _ => True) (.slice (some ⟨W.heap.size, 0, none⟩) 0 0) [] := by
 refine ⟨fun _ _ => trivial, [], ?_, ⟨rfl, fun j p h => by simp at h⟩⟩
 refine ⟨rfl, .inr ⟨W.heap.size, 0, #[], rfl, hb, heap_alloc_new _ _, ?_⟩⟩
 simp
theorem xor3_len : ∀ (a b c : List Int) (n : Nat), a.length = n → b.length = n → c.length = n → (xor3 a b c).length = n
 | [], [], [], _, h, _, _ => h
 | x :: a, y :: b, z :: c, n, h1, h2, h3 => by
  rw [xor3, List.length_cons, xor3_len a b c (n - 1) (by simp at h1; omega) (by simp at h2; omega) (by simp at h3; omega)]
  simp at h1
  omega
 | [], y :: b, _, n, h1, h2, _ => by simp at h1 h2; omega
 | x :: a, [], _, n, h1, h2, _ => by simp at h1 h2; omega
 | [], [], z :: c, n, h1, _, h2 => by simp at h1 h2; omega
 | x :: a, y :: b, [], n, h1, _, h2 => by simp at h1 h2; omega
theorem xor3_snoc : ∀ (a b c : List Int) (x y z : Int), a.length = b.length → a.length = c.length → xor3 (a ++ [x]) (b ++ [y]) (c ++ [z]) = xor3 a b c ++ [bits .xor .u8 (bits .xor .u8 x y) z]
 | [], [], [], x, y, z, _, _ => rfl
 | p :: a, q :: b, r :: c, x, y, z, h1, h2 => by
  rw [List.cons_append, List.cons_append, List.cons_append, xor3, xor3, xor3_snoc a b c x y z (by simpa using h1) (by simpa using h2)]
  rfl
 | [], q :: b, _, _, _, _, h, _ => by simp at h
 | [], [], r :: c, _, _, _, _, h => by simp at h
 | p :: a, [], _, _, _, _, h, _ => by simp at h
 | p :: a, q :: b, [], _, _, _, _, h => by simp at h
theorem C_taken {α : Type} {d : Kd α} {w : World} {A : Option Addr} {l : List α} {n : Nat} (h : Kd.C d w A l.length l) (hn : n ≤ l.length) : Kd.C d w A n (l.take n) := by
 have h2 := Kd.C_take h hn
 rwa [List.length_take, Nat.min_eq_left hn] at h2
theorem take_at (l : List Int) (i : Nat) (h : i < l.length) : l.take (i + 1) = l.take i ++ [rd l (i : Int)] := by
 rw [List.take_succ_eq_append_getElem h]
 simp [rd, List.getD, h]
set_option maxHeartbeats 8000000 in
set_option maxRecDepth 100000 in
theorem FrameSums_calls (A0 : Option Addr) (c0 : Nat) (l0 : List Int) (A1 : Option Addr) (c1 : Nat) (l1 : List Int) (A2 : Option Addr) (c2 : Nat) (l2 : List Int) (w : World) (hLd : Laid w)
  (hr0 : Kd.C (Kd.int .u8) w A0 l0.length l0) (hc0 : l0.length ≤ c0) (hr1 : Kd.C (Kd.int .u8) w A1 l1.length l1) (hc1 : l1.length ≤ c1) (hr2 : Kd.C (Kd.int .u8) w A2 l2.length l2) (hc2 : l2.length ≤ c2)
  (hb0 : ∀ x ∈ l0, 0 ≤ x ∧ x ≤ 255) (hb1 : ∀ x ∈ l1, 0 ≤ x ∧ x ≤ 255) (hb2 : ∀ x ∈ l2, 0 ≤ x ∧ x ≤ 255) :
  Calls Tryd.prog 3 #[.slice A0 l0.length c0, .slice A1 l1.length c1, .slice A2 l2.length c2] w fun e w' => e = .returned (.bool true) ∧ Below w.heap.size w w' := by
 have HL := Lib.hid hLd
 have HR0 := Lib.hid hr0
 have HR1 := Lib.hid hr1
 have HR2 := Lib.hid hr2
 have hm0 := Kd.C_max hr0
 have hm1 := Kd.C_max hr1
 have hm2 := Kd.C_max hr2
 clear hLd hr0 hr1 hr2
 obtain ⟨n, hn⟩ : ∃ n : Nat, (if (l2.length : Int) < (if (l1.length : Int) < (l0.length : Int) then (l1.length : Int) else (l0.length : Int)) then (l2.length : Int) else (if (l1.length : Int) < (l0.length : Int) then (l1.length : Int) else (l0.length : Int))) = (n : Int) := by
  refine ⟨min l0.length (min l1.length l2.length), ?_⟩
  split <;> split <;> omega
 have HN : Hid (n ≤ l0.length ∧ n ≤ l1.length ∧ n ≤ l2.length) := Lib.hid (by
  revert hn
  split <;> split <;> intro hn <;> omega)
 have hmin := fun (ats : Array TypeId) (ty : TypeId) => (show Builtin.min_ ats ty #[.int .i64 (l0.length : Int), .int .i64 (l1.length : Int), .int .i64 (l2.length : Int)] = pure (.int .i64 (n : Int)) from by
  rw [min_three, min2_int]
  simp only [pure_bind, min2_int]
  rw [hn])
 clear hn
 go_enter Tryd.func3, Tryd.ntmps3
 by_cases h300 : 300 < n
 ·have d0 := decide_eq_true (show (300 : Int) < (n : Int) from by omega)
  go_wp2_with fail
  refine (salchowlaw49_awake.calls true w HL.out rfl).mono ?_
  rintro e w1 ⟨rfl, hb⟩
  have HB := Lib.hid hb
  clear hb
  go_wp2_with fail
  go_ret
  exact ⟨rfl, HB.out⟩
 ·have d0 := decide_eq_false (show ¬ (300 : Int) < (n : Int) from by omega)
  go_wp2_with fail
  have HSE : Hid (Kd.R (Kd.int .u8) 5 (w.alloc (Obj.cells #[] 5)) w.heap.size (fun _ => True) (.slice (some ⟨w.heap.size, 0, none⟩) 0 0) []) := Lib.hid (R_emptyB (Nat.le_refl _))
  have HBE : Hid (Below w.heap.size w (w.alloc (Obj.cells #[] 5))) := Lib.hid (below_alloc (Below.refl _ _) _)
  generalize w.alloc (Obj.cells #[] 5) = w1 at HSE HBE ⊢
  obtain ⟨g3, hg3⟩ : ∃ g3, w.heap.size = g3 := ⟨_, rfl⟩
  have hl0 := HN.out.1
  have hl1 := HN.out.2.1
  have hl2 := HN.out.2.2
  go_loopg [8, 9] (n + 1) (fun kq v8 v9 w' => ∃ (i : Nat), v9 = .int .i64 i ∧ i ≤ n ∧ Hid (i + kq = n + 1) ∧ Hid (Kd.R (Kd.int .u8) 5 w' w.heap.size (fun _ => True) v8 (xor3 (l0.take i) (l1.take i) (l2.take i))) ∧ Hid (Below w.heap.size w w'))
  case atStart => exact ⟨0, rfl, Nat.zero_le _, Lib.hid (by omega), Lib.hid (by simpa [xor3] using HSE.out), Lib.hid HBE.out⟩
  case round =>
   clear HSE HBE
   obtain ⟨i, rfl, hi, HA, HS, HB⟩ := hrel
   cases gk with
   | zero => exact absurd HA.out (by omega)
   | succ k1 =>
    by_cases hlt : i < n
    ·have i0 := decide_eq_true (show (i : Int) < (n : Int) from by omega)
     have i1 := eq_true (show (0 : Int) ≤ (i : Int) from by omega)
     have j0 := eq_true (show (i : Int) < (l0.length : Int) from by omega)
     have j1 := eq_true (show (i : Int) < (l1.length : Int) from by omega)
     have j2 := eq_true (show (i : Int) < (l2.length : Int) from by omega)
     have HSD := Lib.hid (Kd.R_below HS.out (below_drew (Below.refl _ _)))
     have HBD := Lib.hid (below_drew HB.out)
     obtain ⟨ad0, e0, ha0⟩ := Kd.at_int (Kd.C_below HR0.out HBD.out) (i : Int) (by omega) (by omega)
     obtain ⟨ad1, e1, ha1⟩ := Kd.at_int (Kd.C_below HR1.out HBD.out) (i : Int) (by omega) (by omega)
     obtain ⟨ad2, e2, ha2⟩ := Kd.at_int (Kd.C_below HR2.out HBD.out) (i : Int) (by omega) (by omega)
     rw [Int.toNat_natCast] at ha0 ha1 ha2
     subst e0 e1 e2
     obtain ⟨x0, hx0⟩ : ∃ x0, rd l0 (i : Int) = x0 := ⟨_, rfl⟩
     obtain ⟨x1, hx1⟩ : ∃ x1, rd l1 (i : Int) = x1 := ⟨_, rfl⟩
     obtain ⟨x2, hx2⟩ : ∃ x2, rd l2 (i : Int) = x2 := ⟨_, rfl⟩
     rw [hx0] at ha0
     rw [hx1] at ha1
     rw [hx2] at ha2
     have HLX : Hid ((xor3 (l0.take i) (l1.take i) (l2.take i)).length ≤ 300) := Lib.hid (by rw [xor3_len _ _ _ i (by rw [List.length_take]; omega) (by rw [List.length_take]; omega) (by rw [List.length_take]; omega)]; omega)
     clear HS
     go_wp2_with fail
     refine start_ (n := 18) (S := fun w' => w'.cell? (ad0.add i) = some (.int .u8 x0) ∧ w'.cell? (ad1.add i) = some (.int .u8 x1) ∧ w'.cell? (ad2.add i) = some (.int .u8 x2)) (ds := []) #[false, false, false, false, false, false, false, false, false, false, false, false, false, false, false, false, false, false] (by kernel_rfl) rfl rfl ⟨ha0, ha1, ha2⟩ (fun hHeld => ?_)
     generalize wr.drew = wd at HSD HBD ha0 ha1 ha2 hHeld ⊢
     refine pure_ (i := 0) (N := some 26) (v := ?_) (a' := ?_) #[true, false, false, false, false, false, false, false, false, false, false, false, false, false, false, false, false, false] rfl rfl (by kernel_rfl) (fun _ _ _ h => h) (Or.inl ⟨by rfl, ?_⟩) ?_ ?_
     rotate_left
     ·intro w'
      go_simp
      with_reducible rfl
     rotate_left
     ·simp only [Act.put, sA_, sB_, sC_, i64_w, i32_w]
      rfl
     refine pure_ (i := 1) (N := some 27) (v := ?_) (a' := ?_) #[true, true, false, false, false, false, false, false, false, false, false, false, false, false, false, false, false, false] rfl rfl (by kernel_rfl) (fun _ _ _ h => h) (Or.inl ⟨by rfl, ?_⟩) ?_ ?_
     rotate_left
     ·intro w'
      go_simp
      with_reducible rfl
     rotate_left
     ·simp only [Act.put, sA_, sB_, sC_, i64_w, i32_w]
      rfl
     refine pure_ (i := 2) (N := some 28) (v := ?_) (a' := ?_) #[true, true, true, false, false, false, false, false, false, false, false, false, false, false, false, false, false, false] rfl rfl (by kernel_rfl) (fun _ _ _ h => h) (Or.inl ⟨by rfl, ?_⟩) ?_ ?_
     rotate_left
     ·intro w'
      go_simp
      with_reducible rfl
     rotate_left
     ·simp only [Act.put, sA_, sB_, sC_, i64_w, i32_w]
      rfl
     refine pure_ (i := 3) (N := some 29) (v := ?_) (a' := ?_) #[true, true, true, true, false, false, false, false, false, false, false, false, false, false, false, false, false, false] rfl rfl (by kernel_rfl) (fun _ _ _ h => h) (Or.inl ⟨by rfl, ?_⟩) ?_ ?_
     rotate_left
     ·intro w'
      go_simp
      with_reducible rfl
     rotate_left
     ·simp only [Act.put, sA_, sB_, sC_, i64_w, i32_w]
      rfl
     refine pure_ (i := 5) (N := some 31) (v := ?_) (a' := ?_) #[true, true, true, true, false, true, false, false, false, false, false, false, false, false, false, false, false, false] rfl rfl (by kernel_rfl) (fun _ _ _ h => h) (Or.inl ⟨by rfl, ?_⟩) ?_ ?_
     rotate_left
     ·intro w'
      go_simp
      with_reducible rfl
     rotate_left
     ·simp only [Act.put, sA_, sB_, sC_, i64_w, i32_w]
      rfl
     refine pure_ (i := 6) (N := some 32) (v := ?_) (a' := ?_) #[true, true, true, true, false, true, true, false, false, false, false, false, false, false, false, false, false, false] rfl rfl (by kernel_rfl) (fun _ _ _ h => h) (Or.inl ⟨by rfl, ?_⟩) ?_ ?_
     rotate_left
     ·intro w'
      go_simp
      with_reducible rfl
     rotate_left
     ·simp only [Act.put, sA_, sB_, sC_, i64_w, i32_w]
      rfl
     refine pure_ (i := 7) (N := some 33) (v := ?_) (a' := ?_) #[true, true, true, true, false, true, true, true, false, false, false, false, false, false, false, false, false, false] rfl rfl (by kernel_rfl) (fun _ _ _ h => h) (Or.inl ⟨by rfl, ?_⟩) ?_ ?_
     rotate_left
     ·intro w'
      go_simp
      with_reducible rfl
     rotate_left
     ·simp only [Act.put, sA_, sB_, sC_, i64_w, i32_w]
      rfl
     refine pure_ (i := 10) (N := some 36) (v := ?_) (a' := ?_) #[true, true, true, true, false, true, true, true, false, false, true, false, false, false, false, false, false, false] rfl rfl (by kernel_rfl) (fun _ _ _ h => h) (Or.inl ⟨by rfl, ?_⟩) ?_ ?_
     rotate_left
     ·intro w'
      go_simp
      with_reducible rfl
     rotate_left
     ·simp only [Act.put, sA_, sB_, sC_, i64_w, i32_w]
      rfl
     refine pure_ (i := 11) (N := some 37) (v := ?_) (a' := ?_) #[true, true, true, true, false, true, true, true, false, false, true, true, false, false, false, false, false, false] rfl rfl (by kernel_rfl) (fun _ _ _ h => h) (Or.inl ⟨by rfl, ?_⟩) ?_ ?_
     rotate_left
     ·intro w'
      go_simp
      with_reducible rfl
     rotate_left
     ·simp only [Act.put, sA_, sB_, sC_, i64_w, i32_w]
      rfl
     refine pure_ (i := 12) (N := some 38) (v := ?_) (a' := ?_) #[true, true, true, true, false, true, true, true, false, false, true, true, true, false, false, false, false, false] rfl rfl (by kernel_rfl) (fun _ _ _ h => h) (Or.inl ⟨by rfl, ?_⟩) ?_ ?_
     rotate_left
     ·intro w'
      go_simp
      with_reducible rfl
     rotate_left
     ·simp only [Act.put, sA_, sB_, sC_, i64_w, i32_w]
      rfl
     refine take_ (i := 4) (N := some 30) (v := ?_) (a' := ?_) #[true, true, true, true, true, true, true, true, false, false, true, true, true, false, false, false, false, false] rfl rfl (by kernel_rfl) (fun _ _ _ h => h) (Or.inl ⟨by rfl, ?_⟩) hHeld ?_ ?_
     rotate_left
     ·rintro w' ⟨s0, s1, s2⟩
      go_simp
      with_reducible rfl
     rotate_left
     ·simp only [Act.put, sA_, sB_, sC_, i64_w, i32_w]
      rfl
     refine take_ (i := 8) (N := some 34) (v := ?_) (a' := ?_) #[true, true, true, true, true, true, true, true, true, false, true, true, true, false, false, false, false, false] rfl rfl (by kernel_rfl) (fun _ _ _ h => h) (Or.inl ⟨by rfl, ?_⟩) hHeld ?_ ?_
     rotate_left
     ·rintro w' ⟨s0, s1, s2⟩
      go_simp
      with_reducible rfl
     rotate_left
     ·simp only [Act.put, sA_, sB_, sC_, i64_w, i32_w]
      rfl
     refine pure_ (i := 9) (N := some 35) (v := ?_) (a' := ?_) #[true, true, true, true, true, true, true, true, true, true, true, true, true, false, false, false, false, false] rfl rfl (by kernel_rfl) (fun _ _ _ h => h) (Or.inl ⟨by rfl, ?_⟩) ?_ ?_
     rotate_left
     ·intro w'
      go_simp
      with_reducible rfl
     rotate_left
     ·simp only [Act.put, sA_, sB_, sC_, i64_w, i32_w]
      rfl
     refine take_ (i := 13) (N := some 39) (v := ?_) (a' := ?_) #[true, true, true, true, true, true, true, true, true, true, true, true, true, true, false, false, false, false] rfl rfl (by kernel_rfl) (fun _ _ _ h => h) (Or.inl ⟨by rfl, ?_⟩) hHeld ?_ ?_
     rotate_left
     ·rintro w' ⟨s0, s1, s2⟩
      go_simp
      with_reducible rfl
     rotate_left
     ·simp only [Act.put, sA_, sB_, sC_, i64_w, i32_w]
      rfl
     refine pure_ (i := 14) (N := some 40) (v := ?_) (a' := ?_) #[true, true, true, true, true, true, true, true, true, true, true, true, true, true, true, false, false, false] rfl rfl (by kernel_rfl) (fun _ _ _ h => h) (Or.inl ⟨by rfl, ?_⟩) ?_ ?_
     rotate_left
     ·intro w'
      go_simp
      with_reducible rfl
     rotate_left
     ·simp only [Act.put, sA_, sB_, sC_, i64_w, i32_w]
      rfl
     refine one_ (i := 15) (N := some 41) #[true, true, true, true, true, true, true, true, true, true, true, true, true, true, true, true, false, false] rfl rfl (by kernel_rfl) (by decide) (fun K hK => ?_)
     refine value_ (w1 := ?_) (v := ?_) (by rfl) rfl ?_ ?_
     rotate_left 2
     ·go_simp
      constructor
      ·rfl
      ·rfl
     refine hK.out _ _ ⟨pw_cell_below (below_alloc (Below.refl wd.heap.size wd) _) ha0, pw_cell_below (below_alloc (Below.refl wd.heap.size wd) _) ha1, pw_cell_below (below_alloc (Below.refl wd.heap.size wd) _) ha2⟩ (fun hHeld => ?_)
     clear hK K
     refine norm_ (a' := ?_) ?_ ?_
     rotate_left
     ·show Act.put _ (some 41) _ = _
      simp only [Act.put, sA_, sB_, sC_, i64_w, i32_w]
      rfl
     refine one_ (i := 16) (N := some 42) #[true, true, true, true, true, true, true, true, true, true, true, true, true, true, true, true, true, false] rfl rfl (by kernel_rfl) (by decide) (fun K hK => ?_)
     refine Kd.R_append_step (Kd.int .u8) (w0 := w) w.heap.size (by rfl) (.tmp 26) (.tmp 41) 22 5 (.int .u8 0) 1 (by rfl) Tryd.underlying22 (by kernel_rfl) rfl (by decide) (by omega) u8 (xor3 (l0.take i) (l1.take i) (l2.take i)) (bits .xor .u8 (bits .xor .u8 x0 x1) x2) [.int .u8 (bits .xor .u8 (bits .xor .u8 x0 x1) x2)] (fun _ => True) (fun _ => False) (by rfl) (by rfl) rfl (fun _ hk => hk.elim) (fun _ _ => trivial) HSD.out HBD.out HBD.out.size (by have h1 := HLX.out; omega) ?_
     intro v3 w3 ho hb hg hat
     have HSW := Lib.hid ho
     have HBW := Lib.hid hb
     have c0_ := Kd.C_below HR0.out HBW.out
     obtain ⟨a0_, q0_, g0_⟩ := Kd.at_int c0_ (i : Int) (by omega) (by omega)
     obtain rfl := Option.some.inj q0_
     rw [Int.toNat_natCast, hx0] at g0_
     have c1_ := Kd.C_below HR1.out HBW.out
     obtain ⟨a1_, q1_, g1_⟩ := Kd.at_int c1_ (i : Int) (by omega) (by omega)
     obtain rfl := Option.some.inj q1_
     rw [Int.toNat_natCast, hx1] at g1_
     have c2_ := Kd.C_below HR2.out HBW.out
     obtain ⟨a2_, q2_, g2_⟩ := Kd.at_int c2_ (i : Int) (by omega) (by omega)
     obtain rfl := Option.some.inj q2_
     rw [Int.toNat_natCast, hx2] at g2_
     clear ho hb hg hat c0_ c1_ c2_ q0_ q1_ q2_
     refine hK.out _ _ ⟨g0_, g1_, g2_⟩ (fun hHeld => ?_)
     clear hK K
     refine norm_ (a' := ?_) ?_ ?_
     rotate_left
     ·show Act.put _ (some 42) _ = _
      simp only [Act.put, sA_, sB_, sC_, i64_w, i32_w]
      rfl
     refine pure_ (i := 17) (N := some 8) (v := ?_) (a' := ?_) #[true, true, true, true, true, true, true, true, true, true, true, true, true, true, true, true, true, true] rfl rfl (by kernel_rfl) (fun _ _ _ h => h) (Or.inl ⟨by rfl, ?_⟩) ?_ ?_
     rotate_left
     ·intro w'
      go_simp
      with_reducible rfl
     rotate_left
     ·simp only [Act.put, sA_, sB_, sC_, i64_w, i32_w]
      rfl
     refine done_ (by kernel_rfl) ?_
     go_wp2_with fail
     go_roundg k1
     case measure => have := HA.out; omega
     case rel => exact ⟨i + 1, by go_num, by omega, Lib.hid (by have := HA.out; omega), Lib.hid (by rw [take_at l0 i (by omega), take_at l1 i (by omega), take_at l2 i (by omega), xor3_snoc _ _ _ _ _ _ (by rw [List.length_take, List.length_take]; omega) (by rw [List.length_take, List.length_take]; omega), hx0, hx1, hx2]; exact HSW.out), Lib.hid HBW.out⟩
    ·obtain rfl : n = i := by omega
     have i0 := decide_eq_false (show ¬ (n : Int) < (n : Int) from by omega)
     have HSD := Lib.hid (Kd.R_below HS.out (below_drew (Below.refl _ _)))
     have HBD := Lib.hid (below_drew HB.out)
     have hq0 : (l0.take n).length = n := by rw [List.length_take]; omega
     have hq1 : (l1.take n).length = n := by rw [List.length_take]; omega
     have hq2 : (l2.take n).length = n := by rw [List.length_take]; omega
     have hqX := xor3_len _ _ _ n hq0 hq1 hq2
     obtain ⟨AX, cX, eX, hcX, hCX⟩ := Kd.R_reads HSD.out
     rw [hqX] at eX hcX
     subst eX
     have tb0 : ∀ x ∈ l0.take n, 0 ≤ x ∧ x ≤ 255 := fun x hx => hb0 x (List.mem_of_mem_take hx)
     have tb1 : ∀ x ∈ l1.take n, 0 ≤ x ∧ x ≤ 255 := fun x hx => hb1 x (List.mem_of_mem_take hx)
     have tb2 : ∀ x ∈ l2.take n, 0 ≤ x ∧ x ≤ 255 := fun x hx => hb2 x (List.mem_of_mem_take hx)
     have hs0 := sum_f tb0 (by omega)
     have hs1 := sum_f tb1 (by omega)
     have hs2 := sum_f tb2 (by omega)
     have hsX := sum_f (xor3_range _ _ _ tb0 tb1 tb2) (by omega)
     have hx := xor3_sum (l0.take n) (l1.take n) (l2.take n) (by omega) (by omega) tb0 tb1 tb2
     obtain ⟨kS, hkS⟩ := (refSum_ev (l0.take n) tb0 (by omega)).rounds
     generalize crcL 65535 (l0.take n) = s0 at hs0 hx hkS
     generalize crcL 65535 (l1.take n) = s1 at hs1 hx
     generalize crcL 65535 (l2.take n) = s2 at hs2 hx
     generalize crcL 65535 (xor3 (l0.take n) (l1.take n) (l2.take n)) = sX at hsX hx
     have HS0 := Lib.hid hs0
     have HS1 := Lib.hid hs1
     have HS2 := Lib.hid hs2
     have HSX := Lib.hid hsX
     have HSR := Lib.hid hkS
     have q1 : (s0 == s0) = true := beq_self_eq_true _
     have q2 : (sX == bits .xor .u16 (bits .xor .u16 s0 s1) s2) = true := beq_iff_eq.2 hx
     have HQ0 := Lib.hid hq0
     have HQ1 := Lib.hid hq1
     have HQ2 := Lib.hid hq2
     have HNX := Lib.hid hqX
     have HCX := Lib.hid hCX
     have HNCX := Lib.hid hcX
     have HM0 := Lib.hid hl0
     have HM1 := Lib.hid hl1
     have HM2 := Lib.hid hl2
     have HNC0 : Hid (n ≤ c0) := Lib.hid (Nat.le_trans hl0 hc0)
     have HNC1 : Hid (n ≤ c1) := Lib.hid (Nat.le_trans hl1 hc1)
     have HNC2 : Hid (n ≤ c2) := Lib.hid (Nat.le_trans hl2 hc2)
     have p0 := eq_true (show (0 : Int) ≤ (n : Int) from by omega)
     have p1 := eq_true (show (n : Int) ≤ (c0 : Int) from by have := HNC0.out; omega)
     have p2 := eq_true (show (n : Int) ≤ (c1 : Int) from by have := HNC1.out; omega)
     have p3 := eq_true (show (n : Int) ≤ (c2 : Int) from by have := HNC2.out; omega)
     have p4 := eq_true HNC0.out
     have p5 := eq_true HNC1.out
     have p6 := eq_true HNC2.out
     have hcv : (convert 22 9 (.slice A0 (n : Nat) c0)).run Tryd.prog wr.drew = .ok (.string (strOfNums (l0.take n))) wr.drew := Kd.C_string Tryd.underlying22 Tryd.underlying5 Tryd.underlying9 (C_taken (Kd.C_below HR0.out HBD.out) HM0.out)
     clear hs0 hs1 hs2 hsX hkS hx hq0 hq1 hq2 hqX hCX hcX HS HB HSD tb0 tb1 tb2
     go_wp2_with fail
     refine start_ (n := 33) (S := fun w' => (convert 22 9 (.slice A0 (n : Nat) c0)).run Tryd.prog w' = .ok (.string (strOfNums (l0.take n))) w') (ds := []) #[false, false, false, false, false, false, false, false, false, false, false, false, false, false, false, false, false, false, false, false, false, false, false, false, false, false, false, false, false, false, false, false, false] (by kernel_rfl) rfl rfl (hcv) (fun hHeld => ?_)
     generalize wr.drew = wd at HBD HCX hcv hHeld ⊢
     refine one_ (i := 0) (N := some 43) #[true, false, false, false, false, false, false, false, false, false, false, false, false, false, false, false, false, false, false, false, false, false, false, false, false, false, false, false, false, false, false, false, false] rfl rfl (by kernel_rfl) (by decide) (fun K hK => ?_)
     refine goes_ Tryd.func10 (by kernel_rfl) rfl #[] (by rfl) rfl rfl (by simp only [List.map_toArray, List.map_nil]) ?_
     with_reducible refine (salchowlaw49_awake.calls true wd (HL.out.below HBD.out) rfl).mono ?_
     rintro e w3 ⟨rfl, hb⟩
     refine ⟨_, rfl, ?_⟩
     have HB3 : Hid (Below w.heap.size w w3) := Lib.hid (below_step HBD.out hb)
     have HD3 : Hid (Below wd.heap.size wd w3) := Lib.hid (hb)
     clear hb
     refine hK.out _ _ (Kd.C_string Tryd.underlying22 Tryd.underlying5 Tryd.underlying9 (C_taken (Kd.C_below HR0.out HB3.out) HM0.out)) (fun hHeld => ?_)
     clear hK K
     refine norm_ (a' := ?_) ?_ ?_
     rotate_left
     ·show Act.put _ (some 43) _ = _
      simp only [Act.put, sA_, sB_, sC_, i64_w, i32_w]
      rfl
     refine pure_ (i := 1) (N := some 44) (v := ?_) (a' := ?_) #[true, true, false, false, false, false, false, false, false, false, false, false, false, false, false, false, false, false, false, false, false, false, false, false, false, false, false, false, false, false, false, false, false] rfl rfl (by kernel_rfl) (fun _ _ _ h => h) (Or.inl ⟨by rfl, ?_⟩) ?_ ?_
     rotate_left
     ·intro w'
      go_simp
      with_reducible rfl
     rotate_left
     ·simp only [Act.put, sA_, sB_, sC_, i64_w, i32_w]
      rfl
     refine pure_ (i := 2) (N := some 45) (v := ?_) (a' := ?_) #[true, true, true, false, false, false, false, false, false, false, false, false, false, false, false, false, false, false, false, false, false, false, false, false, false, false, false, false, false, false, false, false, false] rfl rfl (by kernel_rfl) (fun _ _ _ h => h) (Or.inl ⟨by rfl, ?_⟩) ?_ ?_
     rotate_left
     ·intro w'
      go_simp
      with_reducible rfl
     rotate_left
     ·simp only [Act.put, sA_, sB_, sC_, i64_w, i32_w]
      rfl
     refine pure_ (i := 3) (N := some 46) (v := ?_) (a' := ?_) #[true, true, true, true, false, false, false, false, false, false, false, false, false, false, false, false, false, false, false, false, false, false, false, false, false, false, false, false, false, false, false, false, false] rfl rfl (by kernel_rfl) (fun _ _ _ h => h) (Or.inl ⟨by rfl, ?_⟩) ?_ ?_
     rotate_left
     ·intro w'
      go_simp
      with_reducible rfl
     rotate_left
     ·simp only [Act.put, sA_, sB_, sC_, i64_w, i32_w]
      rfl
     refine pure_ (i := 4) (N := some 47) (v := ?_) (a' := ?_) #[true, true, true, true, true, false, false, false, false, false, false, false, false, false, false, false, false, false, false, false, false, false, false, false, false, false, false, false, false, false, false, false, false] rfl rfl (by kernel_rfl) (fun _ _ _ h => h) (Or.inl ⟨by rfl, ?_⟩) ?_ ?_
     rotate_left
     ·intro w'
      go_simp
      with_reducible rfl
     rotate_left
     ·simp only [Act.put, sA_, sB_, sC_, i64_w, i32_w]
      rfl
     refine pure_ (i := 6) (N := some 49) (v := ?_) (a' := ?_) #[true, true, true, true, true, false, true, false, false, false, false, false, false, false, false, false, false, false, false, false, false, false, false, false, false, false, false, false, false, false, false, false, false] rfl rfl (by kernel_rfl) (fun _ _ _ h => h) (Or.inl ⟨by rfl, ?_⟩) ?_ ?_
     rotate_left
     ·intro w'
      go_simp
      with_reducible rfl
     rotate_left
     ·simp only [Act.put, sA_, sB_, sC_, i64_w, i32_w]
      rfl
     refine pure_ (i := 7) (N := some 50) (v := ?_) (a' := ?_) #[true, true, true, true, true, false, true, true, false, false, false, false, false, false, false, false, false, false, false, false, false, false, false, false, false, false, false, false, false, false, false, false, false] rfl rfl (by kernel_rfl) (fun _ _ _ h => h) (Or.inl ⟨by rfl, ?_⟩) ?_ ?_
     rotate_left
     ·intro w'
      go_simp
      with_reducible rfl
     rotate_left
     ·simp only [Act.put, sA_, sB_, sC_, i64_w, i32_w]
      rfl
     refine pure_ (i := 8) (N := some 51) (v := ?_) (a' := ?_) #[true, true, true, true, true, false, true, true, true, false, false, false, false, false, false, false, false, false, false, false, false, false, false, false, false, false, false, false, false, false, false, false, false] rfl rfl (by kernel_rfl) (fun _ _ _ h => h) (Or.inl ⟨by rfl, ?_⟩) ?_ ?_
     rotate_left
     ·intro w'
      go_simp
      with_reducible rfl
     rotate_left
     ·simp only [Act.put, sA_, sB_, sC_, i64_w, i32_w]
      rfl
     refine take_ (i := 9) (N := some 52) (v := ?_) (a' := ?_) #[true, true, true, true, true, false, true, true, true, true, false, false, false, false, false, false, false, false, false, false, false, false, false, false, false, false, false, false, false, false, false, false, false] rfl rfl (by kernel_rfl) (fun _ _ _ h => h) (Or.inl ⟨by rfl, ?_⟩) hHeld ?_ ?_
     rotate_left
     ·intro w' s0
      go_simp
      with_reducible rfl
     rotate_left
     ·simp only [Act.put, sA_, sB_, sC_, i64_w, i32_w]
      rfl
     refine one_ (i := 5) (N := some 48) #[true, true, true, true, true, true, true, true, true, true, false, false, false, false, false, false, false, false, false, false, false, false, false, false, false, false, false, false, false, false, false, false, false] rfl rfl (by kernel_rfl) (by decide) (fun K hK => ?_)
     refine goes_ Tryd.func11 (by kernel_rfl) rfl #[.slice A0 n c0] (by rfl) rfl rfl (by simp only [List.map_toArray, List.map_cons, List.map_nil]; rfl) ?_
     with_reducible refine (Sum_n A0 (l0.take n) n c0 () s0 _ HQ0.out (Kd.C_take (Kd.C_below HR0.out HB3.out) HM0.out) HNC0.out HS0.out).mono ?_
     rintro e w4 ⟨rfl, hb⟩
     refine ⟨_, rfl, ?_⟩
     have HB4 : Hid (Below w.heap.size w w4) := Lib.hid (below_step HB3.out hb)
     have HD4 : Hid (Below wd.heap.size wd w4) := Lib.hid (below_step HD3.out hb)
     clear hb
     refine hK.out _ _ (Kd.C_string Tryd.underlying22 Tryd.underlying5 Tryd.underlying9 (C_taken (Kd.C_below HR0.out HB4.out) HM0.out)) (fun hHeld => ?_)
     clear hK K
     refine norm_ (a' := ?_) ?_ ?_
     rotate_left
     ·show Act.put _ (some 48) _ = _
      simp only [Act.put, sA_, sB_, sC_, i64_w, i32_w]
      rfl
     refine one_ (i := 10) (N := some 53) #[true, true, true, true, true, true, true, true, true, true, true, false, false, false, false, false, false, false, false, false, false, false, false, false, false, false, false, false, false, false, false, false, false] rfl rfl (by kernel_rfl) (by decide) (fun K hK => ?_)
     refine goes_ Tryd.func12 (by kernel_rfl) rfl #[.string (strOfNums (l0.take n))] (by rfl) rfl rfl (by simp only [List.map_toArray, List.map_cons, List.map_nil]; rfl) ?_
     with_reducible refine (salchowref49_Sum.calls kS (strOfNums (l0.take n)) s0 w4 HSR.out).mono ?_
     rintro e w5 ⟨rfl, hd⟩
     refine ⟨_, rfl, ?_⟩
     have hb := hd.below
     clear hd
     have HB5 : Hid (Below w.heap.size w w5) := Lib.hid (below_step HB4.out hb)
     have HD5 : Hid (Below wd.heap.size wd w5) := Lib.hid (below_step HD4.out hb)
     clear hb
     refine hK.out _ _ (Kd.C_string Tryd.underlying22 Tryd.underlying5 Tryd.underlying9 (C_taken (Kd.C_below HR0.out HB5.out) HM0.out)) (fun hHeld => ?_)
     clear hK K
     refine norm_ (a' := ?_) ?_ ?_
     rotate_left
     ·show Act.put _ (some 53) _ = _
      simp only [Act.put, sA_, sB_, sC_, i64_w, i32_w]
      rfl
     refine pure_ (i := 11) (N := some 54) (v := ?_) (a' := ?_) #[true, true, true, true, true, true, true, true, true, true, true, true, false, false, false, false, false, false, false, false, false, false, false, false, false, false, false, false, false, false, false, false, false] rfl rfl (by kernel_rfl) (fun _ _ _ h => h) (Or.inl ⟨by rfl, ?_⟩) ?_ ?_
     rotate_left
     ·intro w'
      go_simp
      with_reducible rfl
     rotate_left
     ·simp only [Act.put, sA_, sB_, sC_, i64_w, i32_w]
      rfl
     refine pure_ (i := 12) (N := some 55) (v := ?_) (a' := ?_) #[true, true, true, true, true, true, true, true, true, true, true, true, true, false, false, false, false, false, false, false, false, false, false, false, false, false, false, false, false, false, false, false, false] rfl rfl (by kernel_rfl) (fun _ _ _ h => h) (Or.inl ⟨by rfl, ?_⟩) ?_ ?_
     rotate_left
     ·intro w'
      go_simp
      with_reducible rfl
     rotate_left
     ·simp only [Act.put, sA_, sB_, sC_, i64_w, i32_w]
      rfl
     refine pure_ (i := 13) (N := some 56) (v := ?_) (a' := ?_) #[true, true, true, true, true, true, true, true, true, true, true, true, true, true, false, false, false, false, false, false, false, false, false, false, false, false, false, false, false, false, false, false, false] rfl rfl (by kernel_rfl) (fun _ _ _ h => h) (Or.inl ⟨by rfl, ?_⟩) ?_ ?_
     rotate_left
     ·intro w'
      go_simp
      with_reducible rfl
     rotate_left
     ·simp only [Act.put, sA_, sB_, sC_, i64_w, i32_w]
      rfl
     refine pure_ (i := 14) (N := some 57) (v := ?_) (a' := ?_) #[true, true, true, true, true, true, true, true, true, true, true, true, true, true, true, false, false, false, false, false, false, false, false, false, false, false, false, false, false, false, false, false, false] rfl rfl (by kernel_rfl) (fun _ _ _ h => h) (Or.inl ⟨by rfl, ?_⟩) ?_ ?_
     rotate_left
     ·intro w'
      go_simp
      with_reducible rfl
     rotate_left
     ·simp only [Act.put, sA_, sB_, sC_, i64_w, i32_w]
      rfl
     refine pure_ (i := 16) (N := some 59) (v := ?_) (a' := ?_) #[true, true, true, true, true, true, true, true, true, true, true, true, true, true, true, false, true, false, false, false, false, false, false, false, false, false, false, false, false, false, false, false, false] rfl rfl (by kernel_rfl) (fun _ _ _ h => h) (Or.inl ⟨by rfl, ?_⟩) ?_ ?_
     rotate_left
     ·intro w'
      go_simp
      with_reducible rfl
     rotate_left
     ·simp only [Act.put, sA_, sB_, sC_, i64_w, i32_w]
      rfl
     refine pure_ (i := 17) (N := some 60) (v := ?_) (a' := ?_) #[true, true, true, true, true, true, true, true, true, true, true, true, true, true, true, false, true, true, false, false, false, false, false, false, false, false, false, false, false, false, false, false, false] rfl rfl (by kernel_rfl) (fun _ _ _ h => h) (Or.inl ⟨by rfl, ?_⟩) ?_ ?_
     rotate_left
     ·intro w'
      go_simp
      with_reducible rfl
     rotate_left
     ·simp only [Act.put, sA_, sB_, sC_, i64_w, i32_w]
      rfl
     refine pure_ (i := 18) (N := some 61) (v := ?_) (a' := ?_) #[true, true, true, true, true, true, true, true, true, true, true, true, true, true, true, false, true, true, true, false, false, false, false, false, false, false, false, false, false, false, false, false, false] rfl rfl (by kernel_rfl) (fun _ _ _ h => h) (Or.inl ⟨by rfl, ?_⟩) ?_ ?_
     rotate_left
     ·intro w'
      go_simp
      with_reducible rfl
     rotate_left
     ·simp only [Act.put, sA_, sB_, sC_, i64_w, i32_w]
      rfl
     refine pure_ (i := 20) (N := some 63) (v := ?_) (a' := ?_) #[true, true, true, true, true, true, true, true, true, true, true, true, true, true, true, false, true, true, true, false, true, false, false, false, false, false, false, false, false, false, false, false, false] rfl rfl (by kernel_rfl) (fun _ _ _ h => h) (Or.inl ⟨by rfl, ?_⟩) ?_ ?_
     rotate_left
     ·intro w'
      go_simp
      with_reducible rfl
     rotate_left
     ·simp only [Act.put, sA_, sB_, sC_, i64_w, i32_w]
      rfl
     refine pure_ (i := 21) (N := some 64) (v := ?_) (a' := ?_) #[true, true, true, true, true, true, true, true, true, true, true, true, true, true, true, false, true, true, true, false, true, true, false, false, false, false, false, false, false, false, false, false, false] rfl rfl (by kernel_rfl) (fun _ _ _ h => h) (Or.inl ⟨by rfl, ?_⟩) ?_ ?_
     rotate_left
     ·intro w'
      go_simp
      with_reducible rfl
     rotate_left
     ·simp only [Act.put, sA_, sB_, sC_, i64_w, i32_w]
      rfl
     refine pure_ (i := 22) (N := some 65) (v := ?_) (a' := ?_) #[true, true, true, true, true, true, true, true, true, true, true, true, true, true, true, false, true, true, true, false, true, true, true, false, false, false, false, false, false, false, false, false, false] rfl rfl (by kernel_rfl) (fun _ _ _ h => h) (Or.inl ⟨by rfl, ?_⟩) ?_ ?_
     rotate_left
     ·intro w'
      go_simp
      with_reducible rfl
     rotate_left
     ·simp only [Act.put, sA_, sB_, sC_, i64_w, i32_w]
      rfl
     refine pure_ (i := 25) (N := some 68) (v := ?_) (a' := ?_) #[true, true, true, true, true, true, true, true, true, true, true, true, true, true, true, false, true, true, true, false, true, true, true, false, false, true, false, false, false, false, false, false, false] rfl rfl (by kernel_rfl) (fun _ _ _ h => h) (Or.inl ⟨by rfl, ?_⟩) ?_ ?_
     rotate_left
     ·intro w'
      go_simp
      with_reducible rfl
     rotate_left
     ·simp only [Act.put, sA_, sB_, sC_, i64_w, i32_w]
      rfl
     refine pure_ (i := 26) (N := some 69) (v := ?_) (a' := ?_) #[true, true, true, true, true, true, true, true, true, true, true, true, true, true, true, false, true, true, true, false, true, true, true, false, false, true, true, false, false, false, false, false, false] rfl rfl (by kernel_rfl) (fun _ _ _ h => h) (Or.inl ⟨by rfl, ?_⟩) ?_ ?_
     rotate_left
     ·intro w'
      go_simp
      with_reducible rfl
     rotate_left
     ·simp only [Act.put, sA_, sB_, sC_, i64_w, i32_w]
      rfl
     refine pure_ (i := 27) (N := some 70) (v := ?_) (a' := ?_) #[true, true, true, true, true, true, true, true, true, true, true, true, true, true, true, false, true, true, true, false, true, true, true, false, false, true, true, true, false, false, false, false, false] rfl rfl (by kernel_rfl) (fun _ _ _ h => h) (Or.inl ⟨by rfl, ?_⟩) ?_ ?_
     rotate_left
     ·intro w'
      go_simp
      with_reducible rfl
     rotate_left
     ·simp only [Act.put, sA_, sB_, sC_, i64_w, i32_w]
      rfl
     refine one_ (i := 15) (N := some 58) #[true, true, true, true, true, true, true, true, true, true, true, true, true, true, true, true, true, true, true, false, true, true, true, false, false, true, true, true, false, false, false, false, false] rfl rfl (by kernel_rfl) (by decide) (fun K hK => ?_)
     refine goes_ Tryd.func11 (by kernel_rfl) rfl #[.slice AX n cX] (by rfl) rfl rfl (by simp only [List.map_toArray, List.map_cons, List.map_nil]; rfl) ?_
     with_reducible refine (Sum_n AX (xor3 (l0.take n) (l1.take n) (l2.take n)) n cX () sX _ HNX.out (Kd.C_below HCX.out HD5.out) HNCX.out HSX.out).mono ?_
     rintro e w6 ⟨rfl, hb⟩
     refine ⟨_, rfl, ?_⟩
     have HB6 : Hid (Below w.heap.size w w6) := Lib.hid (below_step HB5.out hb)
     have HD6 : Hid (Below wd.heap.size wd w6) := Lib.hid (below_step HD5.out hb)
     clear hb
     refine hK.out _ _ (Kd.C_string Tryd.underlying22 Tryd.underlying5 Tryd.underlying9 (C_taken (Kd.C_below HR0.out HB6.out) HM0.out)) (fun hHeld => ?_)
     clear hK K
     refine norm_ (a' := ?_) ?_ ?_
     rotate_left
     ·show Act.put _ (some 58) _ = _
      simp only [Act.put, sA_, sB_, sC_, i64_w, i32_w]
      rfl
     refine one_ (i := 19) (N := some 62) #[true, true, true, true, true, true, true, true, true, true, true, true, true, true, true, true, true, true, true, true, true, true, true, false, false, true, true, true, false, false, false, false, false] rfl rfl (by kernel_rfl) (by decide) (fun K hK => ?_)
     refine goes_ Tryd.func11 (by kernel_rfl) rfl #[.slice A0 n c0] (by rfl) rfl rfl (by simp only [List.map_toArray, List.map_cons, List.map_nil]; rfl) ?_
     with_reducible refine (Sum_n A0 (l0.take n) n c0 () s0 _ HQ0.out (Kd.C_take (Kd.C_below HR0.out HB6.out) HM0.out) HNC0.out HS0.out).mono ?_
     rintro e w7 ⟨rfl, hb⟩
     refine ⟨_, rfl, ?_⟩
     have HB7 : Hid (Below w.heap.size w w7) := Lib.hid (below_step HB6.out hb)
     have HD7 : Hid (Below wd.heap.size wd w7) := Lib.hid (below_step HD6.out hb)
     clear hb
     refine hK.out _ _ (Kd.C_string Tryd.underlying22 Tryd.underlying5 Tryd.underlying9 (C_taken (Kd.C_below HR0.out HB7.out) HM0.out)) (fun hHeld => ?_)
     clear hK K
     refine norm_ (a' := ?_) ?_ ?_
     rotate_left
     ·show Act.put _ (some 62) _ = _
      simp only [Act.put, sA_, sB_, sC_, i64_w, i32_w]
      rfl
     refine one_ (i := 23) (N := some 66) #[true, true, true, true, true, true, true, true, true, true, true, true, true, true, true, true, true, true, true, true, true, true, true, true, false, true, true, true, false, false, false, false, false] rfl rfl (by kernel_rfl) (by decide) (fun K hK => ?_)
     refine goes_ Tryd.func11 (by kernel_rfl) rfl #[.slice A1 n c1] (by rfl) rfl rfl (by simp only [List.map_toArray, List.map_cons, List.map_nil]; rfl) ?_
     with_reducible refine (Sum_n A1 (l1.take n) n c1 () s1 _ HQ1.out (Kd.C_take (Kd.C_below HR1.out HB7.out) HM1.out) HNC1.out HS1.out).mono ?_
     rintro e w8 ⟨rfl, hb⟩
     refine ⟨_, rfl, ?_⟩
     have HB8 : Hid (Below w.heap.size w w8) := Lib.hid (below_step HB7.out hb)
     have HD8 : Hid (Below wd.heap.size wd w8) := Lib.hid (below_step HD7.out hb)
     clear hb
     refine hK.out _ _ (Kd.C_string Tryd.underlying22 Tryd.underlying5 Tryd.underlying9 (C_taken (Kd.C_below HR0.out HB8.out) HM0.out)) (fun hHeld => ?_)
     clear hK K
     refine norm_ (a' := ?_) ?_ ?_
     rotate_left
     ·show Act.put _ (some 66) _ = _
      simp only [Act.put, sA_, sB_, sC_, i64_w, i32_w]
      rfl
     refine pure_ (i := 24) (N := some 67) (v := ?_) (a' := ?_) #[true, true, true, true, true, true, true, true, true, true, true, true, true, true, true, true, true, true, true, true, true, true, true, true, true, true, true, true, false, false, false, false, false] rfl rfl (by kernel_rfl) (fun _ _ _ h => h) (Or.inl ⟨by rfl, ?_⟩) ?_ ?_
     rotate_left
     ·intro w'
      go_simp
      with_reducible rfl
     rotate_left
     ·simp only [Act.put, sA_, sB_, sC_, i64_w, i32_w]
      rfl
     refine one_ (i := 28) (N := some 71) #[true, true, true, true, true, true, true, true, true, true, true, true, true, true, true, true, true, true, true, true, true, true, true, true, true, true, true, true, true, false, false, false, false] rfl rfl (by kernel_rfl) (by decide) (fun K hK => ?_)
     refine goes_ Tryd.func11 (by kernel_rfl) rfl #[.slice A2 n c2] (by rfl) rfl rfl (by simp only [List.map_toArray, List.map_cons, List.map_nil]; rfl) ?_
     with_reducible refine (Sum_n A2 (l2.take n) n c2 () s2 _ HQ2.out (Kd.C_take (Kd.C_below HR2.out HB8.out) HM2.out) HNC2.out HS2.out).mono ?_
     rintro e w9 ⟨rfl, hb⟩
     refine ⟨_, rfl, ?_⟩
     have HB9 : Hid (Below w.heap.size w w9) := Lib.hid (below_step HB8.out hb)
     have HD9 : Hid (Below wd.heap.size wd w9) := Lib.hid (below_step HD8.out hb)
     clear hb
     refine hK.out _ _ (Kd.C_string Tryd.underlying22 Tryd.underlying5 Tryd.underlying9 (C_taken (Kd.C_below HR0.out HB9.out) HM0.out)) (fun hHeld => ?_)
     clear hK K
     refine norm_ (a' := ?_) ?_ ?_
     rotate_left
     ·show Act.put _ (some 71) _ = _
      simp only [Act.put, sA_, sB_, sC_, i64_w, i32_w]
      rfl
     refine pure_ (i := 29) (N := some 72) (v := ?_) (a' := ?_) #[true, true, true, true, true, true, true, true, true, true, true, true, true, true, true, true, true, true, true, true, true, true, true, true, true, true, true, true, true, true, false, false, false] rfl rfl (by kernel_rfl) (fun _ _ _ h => h) (Or.inl ⟨by rfl, ?_⟩) ?_ ?_
     rotate_left
     ·intro w'
      go_simp
      with_reducible rfl
     rotate_left
     ·simp only [Act.put, sA_, sB_, sC_, i64_w, i32_w]
      rfl
     refine pure_ (i := 30) (N := some 73) (v := ?_) (a' := ?_) #[true, true, true, true, true, true, true, true, true, true, true, true, true, true, true, true, true, true, true, true, true, true, true, true, true, true, true, true, true, true, true, false, false] rfl rfl (by kernel_rfl) (fun _ _ _ h => h) (Or.inl ⟨by rfl, ?_⟩) ?_ ?_
     rotate_left
     ·intro w'
      go_simp
      with_reducible rfl
     rotate_left
     ·simp only [Act.put, sA_, sB_, sC_, i64_w, i32_w]
      rfl
     refine pure_ (i := 31) (N := some 74) (v := ?_) (a' := ?_) #[true, true, true, true, true, true, true, true, true, true, true, true, true, true, true, true, true, true, true, true, true, true, true, true, true, true, true, true, true, true, true, true, false] rfl rfl (by kernel_rfl) (fun _ _ _ h => h) (Or.inl ⟨by rfl, ?_⟩) ?_ ?_
     rotate_left
     ·intro w'
      go_simp
      with_reducible rfl
     rotate_left
     ·simp only [Act.put, sA_, sB_, sC_, i64_w, i32_w]
      rfl
     refine pure_ (i := 32) (N := some 6) (v := ?_) (a' := ?_) #[true, true, true, true, true, true, true, true, true, true, true, true, true, true, true, true, true, true, true, true, true, true, true, true, true, true, true, true, true, true, true, true, true] rfl rfl (by kernel_rfl) (fun _ _ _ h => h) (Or.inl ⟨by rfl, ?_⟩) ?_ ?_
     rotate_left
     ·intro w'
      go_simp
      with_reducible rfl
     rotate_left
     ·simp only [Act.put, sA_, sB_, sC_, i64_w, i32_w]
      rfl
     refine done_ (by kernel_rfl) ?_
     go_wp2_with fail
     go_ret
     exact ⟨rfl, HB9.out⟩
end Go.Proofs.YtfpopmojlmpopaaDoor.H

end
