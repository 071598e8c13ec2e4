/-
  Part 3 of the proof: words about memory and rows, functions of the program as Lean functions with the contracts that its code comes to just their answers, and plain lemmas; no conditions of its own.
-/
import Derived.Deep.MidRow
import Derived.Test.YtfpopmojlmpopaaDoorBDm1
import Derived.Test.YtfpopmojlmpopaaDoorBDm2
section
namespace Go.Proofs.YtfpopmojlmpopaaDoor.H
open Go.RowKit Go.Proofs.YtfpopmojlmpopaaDoorW.PrintWords Go.Proofs.YtfpopmojlmpopaaDoorW.PrintLast Go.Proofs.YtfpopmojlmpopaaDoorW.PrintMore
set_option linter.unusedVariables false
set_option linter.unusedSimpArgs false
theorem put_blk {B g : Nat} {W w1 : World} {v v1 : Value} {n : Int} {m : Nat} {xs : List Value} (hb : W.heap[g]? = some (.cells #[v, .int .i64 n] 57 (0, 0))) (ho : W.ownsRow B 5 1 v m xs) {m1 : Nat} {ys : List Value} (ho1 : w1.ownsRow B 5 1 v1 m1 ys) (hgr : W.grownBy w1 v.ownBlock) :
  (w1.setCell ⟨g, 0, none⟩ v1).heap[g]? = some (.cells #[v1, .int .i64 n] 57 (0, 0)) ∧ (w1.setCell ⟨g, 0, none⟩ v1).ownsRow B 5 1 v1 m1 ys := by
 have hb1 := blk_grown hb hgr (own_ne ho hb (by decide))
 exact ⟨by simpa using blk_set hb1 0 v1, own_setCell ho1 (own_ne ho1 hb1 (by decide)) v1⟩
theorem nums_bytesOf (s : ByteArray) : nums .u8 (bytesOf s) = Lib.strCells s := by simp [nums, bytesOf, Lib.strCells]
section
variable {P : Program} {ops : Array Oper} {rest : List Oper} {o : Oper} {a : Act} {Q : Exit → Act → World → Prop}
theorem put_str {B g T : Nat} {W : World} {v : Value} {n : Int} (l : List Int) (m : Nat) (str : ByteArray) (hgd : o.guard = none) (s x : Operand) (t u e : TypeId)
  (ho : o.op = .call { callee := .builtin .append, args := #[s, x], argTypes := #[t, u] })
  (ht : P.underlying t = some (.slice e)) (hu : P.underlying u = some .string) (hinfo : (P.info? e).map (fun i => (i.zero, i.size, i.bytes)) = some (some (.int .u8 0), 1, 1))
  (hs : a.eval s = v) (hx : a.eval x = .string str)
  (HB : W.heap[g]? = some (.cells #[v, .int .i64 n] T (0, 0))) (hT : e ≠ T) (HO : W.ownsRow B e 1 v m (nums .u8 l)) (hbase : B ≤ W.heap.size) (hl : m + str.size ≤ 140737488355328)
  (h : ∀ A1 k1 w1, Hid (w1.ownsRow B e 1 (.slice A1 (m + str.size) k1) (m + str.size) (nums .u8 (l ++ bytesOf str))) → Hid (W.grownBy w1 v.ownBlock) → w1.cell? ⟨g, 0, none⟩ = some v → w1.cell? ⟨g, 1, none⟩ = some (.int .i64 n) → w1.frozen? ⟨g, 0, none⟩ = false → w1.frozen? ⟨g, 1, none⟩ = false → wpList P ops Q rest (a.put o.dst (.slice A1 (m + str.size) k1)) w1) :
  wpList P ops Q (o :: rest) a W := by
 obtain ⟨i0, hi, hz0, hz1, hz2⟩ := info_parts hinfo
 refine Lib.wpList_append_own_string W hgd s x t u ho B e i0 ht hu hi hz0 hz1 hz2 v m (nums .u8 l) hs HO str hx (by unfold maxLen; omega) hl hbase ?_
 intro v1 w1 ho1 hg1 _
 obtain ⟨A1, k1, rfl⟩ := own_slice ho1
 have hbk := blk_grown HB hg1 (own_ne HO HB hT)
 rw [← nums_bytesOf, ← nums_append] at ho1
 exact h A1 k1 w1 (Lib.hid ho1) (Lib.hid hg1) ((blk_cell hbk 0).trans rfl) ((blk_cell hbk 1).trans rfl) (blk_frozen hbk 0) (blk_frozen hbk 1)
end
set_option maxHeartbeats 4000000 in
set_option maxRecDepth 100000 in
theorem Writer_Text (B g : Nat) (l : List Int) (n : Int) (s : ByteArray) (w : World) (hI : IsW B w g l n) (hBw : B ≤ w.heap.size) (hl : l.length + s.size + 100 ≤ 140737488355328)
  (htab : (100 : Int) ≤ s.size → Lib.TabBelow Tryd.prog B w "internal/strconv.uint64pow10" .u64 Lib.pow10Tab) :
  Calls Tryd.prog 54 #[.pointer (some ⟨g, 0, none⟩), .string s] w fun e w' => e = .returned (.tuple #[]) ∧ IsW B w' g (l ++ (bl (Lib.itoa s.size) ++ 58 :: bytesOf s)) n ∧ WK B g w w' := by
 have hgl := hI.lt
 have hBg := hI.1
 have hi0 : (0 : Int) ≤ (s.size : Int) := by omega
 have hi1 : (s.size : Int) ≤ 9223372036854775807 := by omega
 have HT := Lib.hid htab
 have hil := itoa_len (s.size : Int) hi0 hi1
 have hip := itoa_pos (s.size : Int) hi0
 obtain ⟨i0, hi, hz0, hz1, hz2⟩ := info_parts info5
 have HW2 : Hid (IsW B (w.alloc (.cells Lib.zeros24 83)) g l n) := Lib.hid (hI.alloc _)
 have HK2 : Hid (WK B g w (w.alloc (.cells Lib.zeros24 83))) := Lib.hid ((WK.refl B g w).alloc hBw _)
 have HD2 : Hid ((w.alloc (.cells Lib.zeros24 83)).heap[w.heap.size]? = some (.cells Lib.zeros24 83 (0, 0))) := Lib.hid (heap_alloc_new _ _)
 clear htab
 go_enter Tryd.func54, Tryd.ntmps54
 go_wp2_with fail
 change Code.wp _ _ _ _ (w.alloc (.cells Lib.zeros24 83))
 generalize w.alloc (.cells Lib.zeros24 83) = W2 at HW2 HK2 HD2 ⊢
 obtain ⟨D, hD⟩ : ∃ D, D = w.heap.size := ⟨_, rfl⟩
 rw [← hD] at HD2 hgl ⊢
 have hgD : g ≠ D := by omega
 obtain ⟨l2, hl2e⟩ : ∃ l2, l = l2 := ⟨_, rfl⟩
 have hl2 : l2.length ≤ l.length := by rw [hl2e]; exact Nat.le_refl _
 rw [hl2e] at HW2
 have HL2 := Lib.hid hl2e
 clear hl2e
 have HDW := Lib.hid hD
 clear hD
 obtain ⟨A2, cp2, e0, e1, q0, q1, hb2, ho2⟩ := (HW2.out).open_
 have HB2 := Lib.hid hb2
 have HO2 := Lib.hid ho2
 clear hb2 ho2
 have hgD' : some g ≠ some D := by simpa using hgD
 have HC := Lib.hid (AppendInt_arr D (s.size : Int) hi0 hi1 W2.drew Lib.zeros24 HD2.out rfl (fun h => (HT.out h) _ HK2.out.1.drew))
 have HKP : Hid (∀ w3, AtHead D (Lib.itoa (s.size : Int)) W2.drew w3 → w3.heap[g]? = some (.cells #[.slice A2 l2.length cp2, .int .i64 n] 57 (0, 0))) := Lib.hid (fun w3 HA => (HA.2.block g (blk_lt HB2.out) hgD').trans HB2.out)
 have HKO : Hid (∀ w3, AtHead D (Lib.itoa (s.size : Int)) W2.drew w3 → w3.ownsRow B 5 1 (.slice A2 l2.length cp2) l2.length (nums .u8 l2) ∧ (∀ j u, (Lib.byteCells (Lib.itoa (s.size : Int)))[j]? = some u → w3.cell? ((⟨D, 0, none⟩ : Addr).add j) = some u) ∧ B ≤ w3.heap.size) := Lib.hid (fun w3 HA => ⟨(HO2.out).kept (w' := w3) (row := some D) ⟨HA.2.os, HA.2.tape, HA.2.output, HA.2.size, HA.2.block⟩ (.inr (Ne.symm (own_ne HO2.out HD2.out (by decide)))), fun j u hj => by rw [Lib.add_plain, Nat.zero_add]; exact HA.1 j u hj, by have h1 := HA.2.size; have h2 := HK2.out.1.size; have h3 : W2.drew.heap.size = W2.heap.size := rfl; omega⟩)
 have hbc : (Lib.byteCells (Lib.itoa (s.size : Int))).length = (Lib.itoa (s.size : Int)).length * 1 := by rw [Lib.byteCells_length, Nat.mul_one]
 have HBC := Lib.hid hbc
 have HB1 : Hid (∀ u ∈ Lib.byteCells (Lib.itoa (s.size : Int)), u.oneCell' = true) := Lib.hid (by intro u' hu'; simp only [Lib.byteCells, List.mem_map] at hu'; obtain ⟨b, _, rfl⟩ := hu'; rfl)
 clear hbc
 have hm1 : l2.length + (Lib.itoa (s.size : Int)).length ≤ maxLen := by unfold maxLen; omega
 have HM1 := Lib.hid hm1
 clear hm1
 have HM2 : Hid ((l2.length + (Lib.itoa (s.size : Int)).length) * 1 ≤ 140737488355328) := Lib.hid (by omega)
 refine start_ (n := 13) (S := fun w' => w'.cell? ⟨g, 0, none⟩ = some (.slice A2 l2.length cp2)) (ds := [12]) #[false, false, false, false, false, false, false, false, false, false, false, false, false] (by kernel_rfl) rfl rfl (e0) (fun hHeld => ?_)
 refine pure_ (i := 0) (N := some 5) (v := ?_) (a' := ?_) #[true, false, false, false, false, false, false, false, false, false, false, false, false] rfl rfl (by kernel_rfl) (fun _ _ _ h => h) (Or.inl ⟨by rfl, ?_⟩) ?_ ?_
 rotate_left
 ·intro w'
  go_simp
  with_reducible rfl
 rotate_left
 ·simp only [Act.put, sA_, sB_, sC_, i64_w, i32_w]
  rfl
 refine pure_ (i := 1) (N := some 6) (v := ?_) (a' := ?_) #[true, true, false, false, false, false, false, false, false, false, false, false, false] rfl rfl (by kernel_rfl) (fun _ _ _ h => h) (Or.inl ⟨by rfl, ?_⟩) ?_ ?_
 rotate_left
 ·intro w'
  go_simp
  with_reducible rfl
 rotate_left
 ·simp only [Act.put, sA_, sB_, sC_, i64_w, i32_w]
  rfl
 refine pure_ (i := 2) (N := some 7) (v := ?_) (a' := ?_) #[true, true, true, false, false, false, false, false, false, false, false, false, false] rfl rfl (by kernel_rfl) (fun _ _ _ h => h) (Or.inl ⟨by rfl, ?_⟩) ?_ ?_
 rotate_left
 ·intro w'
  go_simp
  with_reducible rfl
 rotate_left
 ·simp only [Act.put, sA_, sB_, sC_, i64_w, i32_w]
  rfl
 refine pure_ (i := 3) (N := some 8) (v := ?_) (a' := ?_) #[true, true, true, true, false, false, false, false, false, false, false, false, false] rfl rfl (by kernel_rfl) (fun _ _ _ h => h) (Or.inl ⟨by rfl, ?_⟩) ?_ ?_
 rotate_left
 ·intro w'
  go_simp
  with_reducible rfl
 rotate_left
 ·simp only [Act.put, sA_, sB_, sC_, i64_w, i32_w]
  rfl
 refine pure_ (i := 5) (N := some 10) (v := ?_) (a' := ?_) #[true, true, true, true, false, true, false, false, false, false, false, false, false] rfl rfl (by kernel_rfl) (fun _ _ _ h => h) (Or.inl ⟨by rfl, ?_⟩) ?_ ?_
 rotate_left
 ·intro w'
  go_simp
  with_reducible rfl
 rotate_left
 ·simp only [Act.put, sA_, sB_, sC_, i64_w, i32_w]
  rfl
 refine pure_ (i := 6) (N := some 11) (v := ?_) (a' := ?_) #[true, true, true, true, false, true, true, false, false, false, false, false, false] rfl rfl (by kernel_rfl) (fun _ _ _ h => h) (Or.inl ⟨by rfl, ?_⟩) ?_ ?_
 rotate_left
 ·intro w'
  go_simp
  with_reducible rfl
 rotate_left
 ·simp only [Act.put, sA_, sB_, sC_, i64_w, i32_w]
  rfl
 refine pure_ (i := 7) (N := some 12) (v := ?_) (a' := ?_) #[true, true, true, true, false, true, true, true, false, false, false, false, false] rfl rfl (by kernel_rfl) (fun _ _ _ h => h) (Or.inl ⟨by rfl, ?_⟩) ?_ ?_
 rotate_left
 ·intro w'
  go_simp
  with_reducible rfl
 rotate_left
 ·simp only [Act.put, sA_, sB_, sC_, i64_w, i32_w]
  rfl
 refine take_ (i := 4) (N := some 9) (v := ?_) (a' := ?_) #[true, true, true, true, true, true, true, true, false, false, false, false, false] rfl rfl (by kernel_rfl) (fun _ _ _ h => h) (Or.inl ⟨by rfl, ?_⟩) hHeld ?_ ?_
 rotate_left
 ·intro w' s0
  go_simp
  with_reducible rfl
 rotate_left
 ·simp only [Act.put, sA_, sB_, sC_, i64_w, i32_w]
  rfl
 refine one_ (i := 8) (N := some 13) #[true, true, true, true, true, true, true, true, true, false, false, false, false] rfl rfl (by kernel_rfl) (by decide) (fun K hK => ?_)
 refine goes_ Tryd.func53 (by kernel_rfl) rfl #[.slice (some ⟨D, 0, none⟩) 0 24, .int .i64 (s.size : Int), .int .i64 10] (by rfl) rfl rfl (by simp only [List.map_toArray, List.map_cons, List.map_nil]; rfl) ?_
 with_reducible refine (HC.out).mono ?_
 rintro e w3 ⟨rfl, hA⟩
 refine ⟨_, rfl, ?_⟩
 have HA := Lib.hid hA
 clear hA
 refine hK.out _ _ ((blk_cell (HKP.out _ HA.out) 0).trans rfl) (fun hHeld => ?_)
 clear hK K
 refine norm_ (a' := ?_) ?_ ?_
 rotate_left
 ·show Act.put _ (some 13) _ = _
  simp only [Act.put, sA_, sB_, sC_, i64_w, i32_w]
  rfl
 refine one_ (i := 9) (N := some 14) #[true, true, true, true, true, true, true, true, true, true, false, false, false] rfl rfl (by kernel_rfl) (by decide) (fun K hK => ?_)
 refine step_app B (.tmp 9) (.tmp 13) 22 5 1 (by rfl) _ rfl (by rfl) Tryd.underlying22 info5 (by decide) (.slice A2 l2.length cp2) l2.length (nums .u8 l2) (by rfl) (HKO.out _ HA.out).1 ⟨D, 0, none⟩ (Lib.itoa (s.size : Int)).length 24 (Lib.byteCells (Lib.itoa (s.size : Int))) (by rfl) HBC.out (HKO.out _ HA.out).2.1 HB1.out HM1.out HM2.out (HKO.out _ HA.out).2.2 ?_
 intro A4 k4 w4 ho4 hg4
 have hb4 := blk_grown (HKP.out _ HA.out) hg4 (own_ne (HKO.out _ HA.out).1 (HKP.out _ HA.out) (by decide))
 have e4 : w4.cell? ⟨g, 0, none⟩ = some (.slice A2 l2.length cp2) := (blk_cell hb4 0).trans rfl
 have q4 : w4.frozen? ⟨g, 0, none⟩ = false := blk_frozen hb4 0
 have HO4 := Lib.hid ho4
 have HG4 := Lib.hid hg4
 have HB4 := Lib.hid hb4
 clear ho4 hg4 hb4
 refine hK.out _ _ (e4) (fun hHeld => ?_)
 clear hK K
 refine norm_ (a' := ?_) ?_ ?_
 rotate_left
 ·show Act.put _ (some 14) _ = _
  simp only [Act.put, sA_, sB_, sC_, i64_w, i32_w]
  rfl
 refine pure_ (i := 10) (N := some 15) (v := ?_) (a' := ?_) #[true, true, true, true, true, true, true, true, true, true, true, false, false] rfl rfl (by kernel_rfl) (fun _ _ _ h => h) (Or.inl ⟨by rfl, ?_⟩) ?_ ?_
 rotate_left
 ·intro w'
  go_simp
  with_reducible rfl
 rotate_left
 ·simp only [Act.put, sA_, sB_, sC_, i64_w, i32_w]
  rfl
 refine pure_ (i := 11) (N := some 16) (v := ?_) (a' := ?_) #[true, true, true, true, true, true, true, true, true, true, true, true, false] rfl rfl (by kernel_rfl) (fun _ _ _ h => h) (Or.inl ⟨by rfl, ?_⟩) ?_ ?_
 rotate_left
 ·intro w'
  go_simp
  with_reducible rfl
 rotate_left
 ·simp only [Act.put, sA_, sB_, sC_, i64_w, i32_w]
  rfl
 refine last_ (i := 12) (N := none) #[true, true, true, true, true, true, true, true, true, true, true, true, true] rfl rfl (by kernel_rfl) (by decide) (fun K hK => ?_)
 refine skip_ (w1 := ?_) (by rfl) rfl ?_ ?_
 rotate_left
 ·go_simp
  rfl
 refine hK.out _ _ ?_
 clear hK K
 refine done_ (by kernel_rfl) ?_
 have HW5 : Hid (IsW B (w4.setCell ⟨g, 0, none⟩ (.slice A4 (l2.length + (Lib.itoa (s.size : Int)).length) k4)) g (l2 ++ bl (Lib.itoa (s.size : Int))) n) := Lib.hid (IsW.put (m1 := l2.length + (Lib.itoa (s.size : Int)).length) hBg (HKP.out _ HA.out) (HKO.out _ HA.out).1 (by have h := HO4.out; rw [← nums_bl, ← nums_append] at h; exact h) (by rw [List.length_append, bl_length]) HG4.out)
 have HK3 : Hid (WK B g w w3) := Lib.hid (WK.of_drew (HK2.out) (HA.out.2) HD2.out (by rw [HDW.out]; exact hBw) (by rw [HDW.out]; exact Nat.le_refl _))
 have HK5 : Hid (WK B g w (w4.setCell ⟨g, 0, none⟩ (.slice A4 (l2.length + (Lib.itoa (s.size : Int)).length) k4))) := Lib.hid ((HK3.out.grown (HKO.out _ HA.out).2.2 (HKO.out _ HA.out).1 HG4.out).setW hBg _ _)
 generalize w4.setCell ⟨g, 0, none⟩ (.slice A4 (l2.length + (Lib.itoa (s.size : Int)).length) k4) = W5 at HW5 HK5 ⊢
 have hl3 : (l2 ++ bl (Lib.itoa (s.size : Int))).length ≤ l.length + 25 := by rw [List.length_append, bl_length]; omega
 obtain ⟨l3, hl3e⟩ : ∃ l3, l2 ++ bl (Lib.itoa (s.size : Int)) = l3 := ⟨_, rfl⟩
 rw [hl3e] at HW5 hl3
 have HL3 := Lib.hid hl3e
 clear hl3e hHeld e0 e1 q0 q1 e4 q4
 obtain ⟨A6, k6, c6, d6, f6, g6, hb6, ho6⟩ := (HW5.out).open_
 have HB6 := Lib.hid hb6
 have HO6 := Lib.hid ho6
 clear hb6 ho6
 have hB5 : B ≤ W5.heap.size := by have := HK5.out.1.size; omega
 go_wp2_with (first
  | (at_builtin; refine put_str (l3 ++ [58]) (l3.length + 1) s rfl _ _ 22 9 5 rfl Tryd.underlying22 Tryd.underlying9 info5 rfl rfl HB8.out (by decide) HO8.out HS8.out (by omega) ?_; intro A9 k9 w9 HO9 HG9 d9 e9 g9 h9)
  | (at_builtin; refine put_num l3 58 W5.heap.size rfl rfl _ _ 22 5 rfl Tryd.underlying22 info5 rfl rfl HB6.out (by decide) HO6.out hB5 (by omega) ?_; intro A7 k7 w7 HO7 HG7 d7 e7 g7 h7; have hP := put_blk HB6.out HO6.out HO7.out HG7.out; have HB8 := Lib.hid hP.1; have HO8 := Lib.hid hP.2; have HK8 := Lib.hid ((HK5.out.grown hB5 HO6.out HG7.out).setW hBg 0 (.slice A7 (l3.length + 1) k7)); have HS8 := Lib.hid (Nat.le_trans hBw HK8.out.1.size); clear hP))
 first | go_end0 | ((try simp only [Exit.inBlock, Exit.then]); refine bodyPost_ret (results_none rfl _ _ _) rfl ?_)
 refine ⟨rfl, ?_, (HK8.out.grown HS8.out HO8.out HG9.out).setW hBg _ _⟩
 have hfin := IsW.put hBg HB8.out HO8.out HO9.out (by rw [List.length_append, List.length_append, bytesOf_length]; rfl) HG9.out
 rw [← HL3.out, ← HL2.out] at hfin ⊢
 simpa using hfin
end Go.Proofs.YtfpopmojlmpopaaDoor.H

end
section
namespace Go.Proofs.YtfpopmojlmpopaaDoor.H
open Go.RowKit Go.Proofs.YtfpopmojlmpopaaDoorW.PrintWords Go.Proofs.YtfpopmojlmpopaaDoorW.PrintLast Go.Proofs.YtfpopmojlmpopaaDoorW.PrintMore
set_option linter.unusedVariables false
set_option linter.unusedSimpArgs false
set_option maxHeartbeats 4000000 in
set_option maxRecDepth 100000 in
theorem Writer_Data (B g : Nat) (l : List Int) (n : Nat) (w : World) (hI : IsW B w g l n) (hn : n ≤ 1000) (hl : l.length ≤ 140737488355328) :
  Calls Tryd.prog 33 #[.pointer (some ⟨g, 0, none⟩)] w fun e w' => e = .returned (.string (strOfNums l ++ ⟨(Lib.repeatL [101] n).toArray⟩)) ∧ Below w.heap.size w w' := by
 obtain ⟨W2, hW2⟩ : ∃ W2, W2 = w := ⟨_, rfl⟩
 rw [← hW2] at hI ⊢
 clear hW2
 obtain ⟨A2, cp2, e0, e1, q0, q1, hb2, ho2⟩ := hI.open_
 have HB2 := Lib.hid hb2
 have HO2 := Lib.hid ho2
 clear hb2 ho2
 have HC := Lib.hid (Tryd.strings_Repeat ⟨#[101]⟩ n W2.drew (by omega) (by show 1 * n ≤ _; omega))
 have hsn : (strOfNums l).size = l.length := by simp [strOfNums, ByteArray.size]
 have hrl : (Lib.repeatL [101] n).length = n := by rw [Lib.repeatL_length]; simp
 have hno : (9223372036854775807 < (strOfNums l).size + (Lib.repeatL [101] n).length) = False := eq_false (by rw [hsn, hrl]; omega)
 clear hsn hrl
 go_enter Tryd.func33, Tryd.ntmps33
 go_wp2_with fail
 refine start_ (n := 12) (S := fun w' => w'.cell? ⟨g, 0, none⟩ = some (.slice A2 l.length cp2) ∧ w'.cell? ⟨g, 1, none⟩ = some (.int .i64 n) ∧ w'.ownsRow B 5 1 (.slice A2 l.length cp2) l.length (nums .u8 l)) (ds := []) #[false, false, false, false, false, false, false, false, false, false, false, false] (by kernel_rfl) rfl rfl ⟨e0, e1, HO2.out⟩ (fun hHeld => ?_)
 refine pure_ (i := 0) (N := some 3) (v := ?_) (a' := ?_) #[true, false, false, false, false, false, false, false, false, false, false, false] rfl rfl (by kernel_rfl) (fun _ _ _ h => h) (Or.inl ⟨by rfl, ?_⟩) ?_ ?_
 rotate_left
 ·intro w'
  go_simp
  with_reducible rfl
 rotate_left
 ·simp only [Act.put, sA_, sB_, sC_, i64_w, i32_w]
  rfl
 refine pure_ (i := 1) (N := some 4) (v := ?_) (a' := ?_) #[true, true, false, false, false, false, false, false, false, false, false, false] rfl rfl (by kernel_rfl) (fun _ _ _ h => h) (Or.inl ⟨by rfl, ?_⟩) ?_ ?_
 rotate_left
 ·intro w'
  go_simp
  with_reducible rfl
 rotate_left
 ·simp only [Act.put, sA_, sB_, sC_, i64_w, i32_w]
  rfl
 refine pure_ (i := 2) (N := some 5) (v := ?_) (a' := ?_) #[true, true, true, false, false, false, false, false, false, false, false, false] rfl rfl (by kernel_rfl) (fun _ _ _ h => h) (Or.inl ⟨by rfl, ?_⟩) ?_ ?_
 rotate_left
 ·intro w'
  go_simp
  with_reducible rfl
 rotate_left
 ·simp only [Act.put, sA_, sB_, sC_, i64_w, i32_w]
  rfl
 refine pure_ (i := 5) (N := some 8) (v := ?_) (a' := ?_) #[true, true, true, false, false, true, false, false, false, false, false, false] rfl rfl (by kernel_rfl) (fun _ _ _ h => h) (Or.inl ⟨by rfl, ?_⟩) ?_ ?_
 rotate_left
 ·intro w'
  go_simp
  with_reducible rfl
 rotate_left
 ·simp only [Act.put, sA_, sB_, sC_, i64_w, i32_w]
  rfl
 refine pure_ (i := 6) (N := some 9) (v := ?_) (a' := ?_) #[true, true, true, false, false, true, true, false, false, false, false, false] rfl rfl (by kernel_rfl) (fun _ _ _ h => h) (Or.inl ⟨by rfl, ?_⟩) ?_ ?_
 rotate_left
 ·intro w'
  go_simp
  with_reducible rfl
 rotate_left
 ·simp only [Act.put, sA_, sB_, sC_, i64_w, i32_w]
  rfl
 refine pure_ (i := 7) (N := some 10) (v := ?_) (a' := ?_) #[true, true, true, false, false, true, true, true, false, false, false, false] rfl rfl (by kernel_rfl) (fun _ _ _ h => h) (Or.inl ⟨by rfl, ?_⟩) ?_ ?_
 rotate_left
 ·intro w'
  go_simp
  with_reducible rfl
 rotate_left
 ·simp only [Act.put, sA_, sB_, sC_, i64_w, i32_w]
  rfl
 refine take_ (i := 3) (N := some 6) (v := ?_) (a' := ?_) #[true, true, true, true, false, true, true, true, false, false, false, false] rfl rfl (by kernel_rfl) (fun _ _ _ h => h) (Or.inl ⟨by rfl, ?_⟩) hHeld ?_ ?_
 rotate_left
 ·rintro w' ⟨s0, s1, s2⟩
  go_simp
  with_reducible rfl
 rotate_left
 ·simp only [Act.put, sA_, sB_, sC_, i64_w, i32_w]
  rfl
 refine take_ (i := 4) (N := some 7) (v := ?_) (a' := ?_) #[true, true, true, true, true, true, true, true, false, false, false, false] rfl rfl (by kernel_rfl) (fun _ _ _ h => h) (Or.inl ⟨by rfl, ?_⟩) hHeld ?_ ?_
 rotate_left
 ·rintro w' ⟨s0, s1, s2⟩
  have hcv := own_string (P := Tryd.prog) Tryd.underlying22 Tryd.underlying5 Tryd.underlying9 s2
  go_simp
  with_reducible rfl
 rotate_left
 ·simp only [Act.put, sA_, sB_, sC_, i64_w, i32_w]
  rfl
 refine take_ (i := 8) (N := some 11) (v := ?_) (a' := ?_) #[true, true, true, true, true, true, true, true, true, false, false, false] rfl rfl (by kernel_rfl) (fun _ _ _ h => h) (Or.inl ⟨by rfl, ?_⟩) hHeld ?_ ?_
 rotate_left
 ·rintro w' ⟨s0, s1, s2⟩
  go_simp
  with_reducible rfl
 rotate_left
 ·simp only [Act.put, sA_, sB_, sC_, i64_w, i32_w]
  rfl
 refine one_ (i := 9) (N := some 12) #[true, true, true, true, true, true, true, true, true, true, false, false] rfl rfl (by kernel_rfl) (by decide) (fun K hK => ?_)
 refine goes_ Tryd.func55 (by kernel_rfl) rfl #[.string ⟨#[101]⟩, .int .i64 (n : Int)] (by rfl) rfl rfl (by simp only [List.map_toArray, List.map_cons, List.map_nil]; rfl) ?_
 with_reducible refine (HC.out).mono ?_
 rintro e w3 ⟨rfl, hb⟩
 refine ⟨_, rfl, ?_⟩
 have HR3 := Lib.hid (show Below W2.heap.size W2 w3 from ⟨hb.os, hb.tape, hb.output, hb.size, hb.block⟩)
 clear hb
 refine hK.out _ _ ⟨(HR3.out.cell (blk_lt HB2.out)).trans e0, (HR3.out.cell (blk_lt HB2.out)).trans e1, pw_own_below (w := W2) HO2.out HR3.out⟩ (fun hHeld => ?_)
 clear hK K
 refine norm_ (a' := ?_) ?_ ?_
 rotate_left
 ·show Act.put _ (some 12) _ = _
  simp only [Act.put, sA_, sB_, sC_, i64_w, i32_w]
  rfl
 refine pure_ (i := 10) (N := some 13) (v := ?_) (a' := ?_) #[true, true, true, true, true, true, true, true, true, true, true, false] rfl rfl (by kernel_rfl) (fun _ _ _ h => h) (Or.inl ⟨by rfl, ?_⟩) ?_ ?_
 rotate_left
 ·intro w'
  go_simp
  with_reducible rfl
 rotate_left
 ·simp only [Act.put, sA_, sB_, sC_, i64_w, i32_w]
  rfl
 refine pure_ (i := 11) (N := some 2) (v := ?_) (a' := ?_) #[true, true, true, true, true, true, true, true, true, true, true, true] rfl rfl (by kernel_rfl) (fun _ _ _ h => h) (Or.inl ⟨by rfl, ?_⟩) ?_ ?_
 rotate_left
 ·intro w'
  go_simp
  with_reducible rfl
 rotate_left
 ·simp only [Act.put, sA_, sB_, sC_, i64_w, i32_w]
  rfl
 refine done_ (by kernel_rfl) ?_
 go_wp2
 go_ret
 exact ⟨rfl, HR3.out⟩
def txt (s : ByteArray) : List Int := bl (Lib.itoa s.size) ++ 58 :: bytesOf s
def txts (ls : List ByteArray) : List Int := ls.flatMap txt
theorem txts_snoc (ls : List ByteArray) (k : Nat) (h : k < ls.length) : txts (ls.take (k + 1)) = txts (ls.take k) ++ txt (rdOf ByteArray.empty ls k) := by
 unfold txts
 rw [List.take_succ_eq_append_getElem h, List.flatMap_append]
 simp [rdOf, List.getD, h]
theorem txt_len_le (ls : List ByteArray) (k : Nat) (h : k < ls.length) : (txts (ls.take k)).length + (txt (rdOf ByteArray.empty ls k)).length ≤ (txts ls).length := by
 have h1 := txts_snoc ls k h
 have h2 : txts ls = txts (ls.take (k + 1)) ++ txts (ls.drop (k + 1)) := by
  rw [txts, txts, txts, ← List.flatMap_append, List.take_append_drop]
 rw [h2, h1, List.length_append, List.length_append]
 omega
theorem txt_size (s : ByteArray) : s.size < (txt s).length := by
 simp only [txt, List.length_append, List.length_cons, bytesOf_length]; omega
theorem C_of {w0 w : World} {α : Type} {d : Kd α} {A : Option Addr} {n : Nat} {xs : List α} (h : d.C w0 A n xs) (hb : Below w0.heap.size w0 w) : d.C w A n xs := Kd.C_below h hb
def Tab (B : Nat) (w : World) : Prop := Lib.TabBelow Tryd.prog B w "internal/strconv.uint64pow10" .u64 Lib.pow10Tab
theorem Tab.on {B : Nat} {w w1 : World} (h : Tab B w) (hb : Below B w w1) : Tab B w1 := Lib.TabBelow.on h hb
set_option maxHeartbeats 1000000 in
set_option maxRecDepth 100000 in
theorem putLines_calls (w0 : World) (g : Nat) (l : List Int) (n : Int) (A : Option Addr) (c : Nat) (ls : List ByteArray) (w : World) (hb0 : Below w0.heap.size w0 w) (hI : IsW w0.heap.size w g l n) (hn0 : 0 ≤ n) (hn1 : n ≤ 999)
  (hr : Kd.C Kd.string w0 A ls.length ls) (hc : ls.length ≤ c) (hls : ls.length ≤ 140737488355328) (hl : l.length + (txts ls).length + 200 ≤ 140737488355328) (htab : (∃ s ∈ ls, 100 ≤ s.size) → Tab w0.heap.size w) :
  Calls Tryd.prog 31 #[.pointer (some ⟨g, 0, none⟩), .slice A ls.length c] w fun e w' => e = .returned (.tuple #[]) ∧ IsW w0.heap.size w' g (l ++ (108 :: txts ls ++ [101])) n ∧ WK w0.heap.size g w w' := by
 have HB0 := Lib.hid hb0
 have HI := Lib.hid hI
 have HR := Lib.hid hr
 have HT := Lib.hid htab
 have hbs : w0.heap.size ≤ w.heap.size := hb0.size
 clear hb0 hI hr htab
 go_enter Tryd.func31, Tryd.ntmps31
 go_wp2_with fail
 refine (Writer_Open _ g l n w HI.out hbs hn0 (by omega) (by omega)).mono ?_
 rintro e w1 ⟨rfl, hI1, hK1⟩
 have HI1 := Lib.hid hI1
 have HK1 := Lib.hid hK1
 clear hI1 hK1
 go_wp2_with fail
 go_loopw [10] (fun v wr => ∃ k : Nat, k ≤ ls.length ∧ v = .int .i64 k ∧ Hid (IsW w0.heap.size wr g (l ++ [108] ++ txts (ls.take k)) (n + 1)) ∧ Hid (WK w0.heap.size g w wr)) (fun v _ => ls.length - (intOf v).toNat)
 case atStart => exact ⟨0, by omega, rfl, by simpa [txts] using HI1, HK1⟩
 case round =>
  obtain ⟨k, hk, rfl, HIk, HKk⟩ := hrel
  have hb1 : Below w0.heap.size w0 wr := HB0.out.trans HKk.out.1
  have HB1 := Lib.hid hb1
  clear hb1
  by_cases hlt : k < ls.length
  ·obtain ⟨ad, rfl, hcell⟩ := Kd.at_string (C_of HR.out HB1.out) k (by omega) (by omega)
   rw [Int.toNat_natCast] at hcell
   have hsn := Lib.hid (txts_snoc ls k hlt)
   have hle := txt_len_le ls k hlt
   have hsz := txt_size (rdOf ByteArray.empty ls k)
   obtain ⟨s, hs⟩ : ∃ s, rdOf ByteArray.empty ls k = s := ⟨_, rfl⟩
   have hmem : s ∈ ls := by rw [← hs]; simp [rdOf, List.getD, hlt]
   rw [hs] at hcell hsn hle hsz
   have HS := Lib.hid hs
   clear hs
   go_wp2_with fail
   refine (Writer_Text _ g _ _ s wr HIk.out (Nat.le_trans hbs HKk.out.1.size) (by simp only [List.length_append, List.length_cons, List.length_nil]; omega) (fun h => (HT.out ⟨s, hmem, by omega⟩).on HKk.out.1)).mono ?_
   rintro e w2 ⟨rfl, hI2, hK2⟩
   have HI2 := Lib.hid hI2
   have HK2 := Lib.hid hK2
   clear hI2 hK2 hcell
   go_wp2_with fail
   go_roundw
   case rel => exact ⟨k + 1, by omega, by go_num, Lib.hid (by rw [hsn.out]; simpa [txt] using HI2.out), Lib.hid (HKk.out.trans HK2.out)⟩
   case measure => simp [intOf]; omega
  ·obtain rfl : k = ls.length := by omega
   go_wp2_with fail
   refine (Writer_Close _ g _ _ wr HIk.out (Nat.le_trans hbs HKk.out.1.size) (by omega) (by omega) (by simp only [List.length_append, List.length_cons, List.length_nil, List.take_length]; omega)).mono ?_
   rintro e w2 ⟨rfl, hI2, hK2⟩
   have HI2 := Lib.hid hI2
   have HK2 := Lib.hid hK2
   clear hI2 hK2
   go_wp2_with fail
   first | go_end0 | ((try simp only [Exit.inBlock, Exit.then]); refine bodyPost_ret (results_none rfl _ _ _) rfl ?_)
   refine ⟨rfl, ?_, HKk.out.trans HK2.out⟩
   have h := HI2.out
   rw [show n + 1 - 1 = n from by omega] at h
   simpa using h
end Go.Proofs.YtfpopmojlmpopaaDoor.H

end
section
namespace Go.Proofs.YtfpopmojlmpopaaDoor.H
open Go.RowKit Go.Proofs.YtfpopmojlmpopaaDoorW.PrintWords Go.Proofs.YtfpopmojlmpopaaDoorW.PrintLast Go.Proofs.YtfpopmojlmpopaaDoorW.PrintMore Go.Proofs.YtfpopmojlmpopaaDoor.G
set_option linter.unusedVariables false
set_option linter.unusedSimpArgs false
def intT (n : Int) : List Int := 105 :: bl (Lib.itoa n) ++ [59]
def editT (x : S52) : List Int := 108 :: (intT x.f0 ++ intT x.f1 ++ (108 :: txts x.f2 ++ [101]) ++ [101])
def edsT (l : List S52) : List Int := l.flatMap editT
def encT (a0 a1 a2 a3 a4 : Int) (l5 : List ByteArray) (l6 : List S52) : List Int :=
 108 :: (intT a0 ++ intT a1 ++ intT a2 ++ intT a3 ++ intT a4 ++ (108 :: txts l5 ++ [101]) ++ (108 :: edsT l6))
def okI (n : Int) : Bool := decide (0 ≤ n) && decide (n ≤ 9223372036854775807)
def okE (a0 a1 a2 a3 a4 : Int) (l5 : List ByteArray) (l6 : List S52) : Bool :=
 okI a0 && okI a1 && okI a2 && okI a3 && okI a4 && l6.all (fun x => okI x.f0 && okI x.f1 && decide (x.f2.length ≤ 140737488355328)) && decide (l5.length ≤ 140737488355328) && decide (l6.length ≤ 140737488355328) && decide ((encT a0 a1 a2 a3 a4 l5 l6).length + 1000 ≤ 140737488351232)
def encB (a0 a1 a2 a3 a4 : Int) (l5 : List ByteArray) (l6 : List S52) : List Int := encT a0 a1 a2 a3 a4 l5 l6 ++ [101, 101]
def frame_Encode.f (k : Nat) (a0 a1 a2 a3 a4 : Int) (l5 : List ByteArray) (l6 : List S52) : Option (List Int × Int) :=
 (frame_Check.f k a0 a1 a2 a3 a4 l5 l6).bind fun e => if e = 0 then (if okE a0 a1 a2 a3 a4 l5 l6 = true then (frame_Sum.f (encB a0 a1 a2 a3 a4 l5 l6)).bind fun s => some (encB a0 a1 a2 a3 a4 l5 l6 ++ digs s, 0) else none) else some ([], e)
theorem edsT_snoc (ls : List S52) (k : Nat) (h : k < ls.length) : edsT (ls.take (k + 1)) = edsT (ls.take k) ++ editT (rd_T52 ls k) := by
 unfold edsT
 rw [List.take_succ_eq_append_getElem h, List.flatMap_append]
 simp [rd_T52, List.getD, h]
theorem edsT_le (ls : List S52) (k : Nat) (h : k < ls.length) : (edsT (ls.take k)).length + (editT (rd_T52 ls k)).length ≤ (edsT ls).length := by
 have h1 := edsT_snoc ls k h
 have h2 : edsT ls = edsT (ls.take (k + 1)) ++ edsT (ls.drop (k + 1)) := by
  rw [edsT, edsT, edsT, ← List.flatMap_append, List.take_append_drop]
 rw [h2, h1, List.length_append, List.length_append]
 omega
theorem okI_open {n : Int} (h : okI n = true) : 0 ≤ n ∧ n ≤ 9223372036854775807 := by
 simpa [okI] using h
theorem okE_open {a0 a1 a2 a3 a4 : Int} {l5 : List ByteArray} {l6 : List S52} (h : okE a0 a1 a2 a3 a4 l5 l6 = true) :
  (0 ≤ a0 ∧ a0 ≤ 9223372036854775807) ∧ (0 ≤ a1 ∧ a1 ≤ 9223372036854775807) ∧ (0 ≤ a2 ∧ a2 ≤ 9223372036854775807) ∧ (0 ≤ a3 ∧ a3 ≤ 9223372036854775807) ∧ (0 ≤ a4 ∧ a4 ≤ 9223372036854775807) ∧
   (∀ x ∈ l6, (0 ≤ x.f0 ∧ x.f0 ≤ 9223372036854775807) ∧ (0 ≤ x.f1 ∧ x.f1 ≤ 9223372036854775807) ∧ x.f2.length ≤ 140737488355328) ∧ l5.length ≤ 140737488355328 ∧ l6.length ≤ 140737488355328 ∧ (encT a0 a1 a2 a3 a4 l5 l6).length + 1000 ≤ 140737488351232 := by
 simp only [okE, Bool.and_eq_true, decide_eq_true_eq, List.all_eq_true] at h
 obtain ⟨⟨⟨⟨⟨⟨⟨⟨h0, h1⟩, h2⟩, h3⟩, h4⟩, h5⟩, h6⟩, h7⟩, h8⟩ := h
 exact ⟨okI_open h0, okI_open h1, okI_open h2, okI_open h3, okI_open h4, fun x hx => ⟨okI_open (h5 x hx).1.1, okI_open (h5 x hx).1.2, (h5 x hx).2⟩, h6, h7, h8⟩
theorem encT_parts (a0 a1 a2 a3 a4 : Int) (l5 : List ByteArray) (l6 : List S52) : (encT a0 a1 a2 a3 a4 l5 l6).length = 1 + (bl (Lib.itoa a0)).length + (bl (Lib.itoa a1)).length + (bl (Lib.itoa a2)).length + (bl (Lib.itoa a3)).length + (bl (Lib.itoa a4)).length + 10 + ((txts l5).length + 2) + (1 + (edsT l6).length) := by
 simp only [encT, intT, List.length_append, List.length_cons, List.length_nil]; omega
theorem frame_Sum.ok {l : List Int} {r : Int} (h : frame_Sum.f l = some r) : okBytes l = true := by
 unfold frame_Sum.f at h
 split at h
 ·assumption
 ·cases h
theorem okBytes_left {a b : List Int} (h : okBytes (a ++ b) = true) : ∀ x ∈ a, 0 ≤ x ∧ x ≤ 255 := by
 simp only [okBytes, Bool.and_eq_true, List.all_eq_true, decide_eq_true_eq] at h
 exact fun x hx => h.1 x (List.mem_append_left _ hx)
theorem bytesOf_append (a b : ByteArray) : bytesOf (a ++ b) = bytesOf a ++ bytesOf b := by simp [bytesOf]
theorem bytesOf_strOfNums (l : List Int) (h : ∀ x ∈ l, 0 ≤ x ∧ x ≤ 255) : bytesOf (strOfNums l) = l := by
 unfold bytesOf strOfNums
 rw [List.map_map]
 conv => rhs; rw [← List.map_id l]
 refine List.map_congr_left fun x hx => ?_
 obtain ⟨h0, h1⟩ := h x hx
 have h2 : x.toNat < 256 := by omega
 simp only [Function.comp, id]
 rw [UInt8.toNat_ofNat']
 omega
theorem bytesOf_enc (l : List Int) (h : ∀ x ∈ l, 0 ≤ x ∧ x ≤ 255) : bytesOf (strOfNums l ++ ⟨(Lib.repeatL [101] 2).toArray⟩) = l ++ [101, 101] := by
 rw [bytesOf_append, bytesOf_strOfNums l h]
 rfl
theorem bytesCells_size (w : World) (e : TypeId) (s : ByteArray) (h : s.size ≤ grownCap w s.size 0 e) : (Lib.bytesCells w e s).size = grownCap w s.size 0 e := by
 have h1 : s.data.size = s.size := rfl
 simp only [Lib.bytesCells, Array.size_append, Array.size_map, Array.size_replicate, h1]
 omega
theorem Sum_n (A0 : Option Addr) (l0 : List Int) (n c0 : Nat) (m : Unit) (r : Int) (w : World) (hn : l0.length = n) (hr0 : Kd.C (Kd.int .u8) w A0 l0.length l0) (hc0 : n ≤ c0) (h : frame_Sum.f l0 = some r) :
  Calls Tryd.prog 11 #[.slice A0 n c0] w fun e w' => e = .returned (.int .u16 r) ∧ Below w.heap.size w w' := by
 subst hn
 exact frame_Sum.calls A0 c0 l0 r w hr0 hc0 h
theorem cells_of_C {w : World} {b : Nat} {l : List Int} (h : Kd.C (Kd.int .u8) w (some ⟨b, 0, none⟩) l.length l) : ∀ j u, (nums .u8 l)[j]? = some u → w.cell? ⟨b, 0 + j, none⟩ = some u := by
 intro j u hj
 have hl : j < l.length := by have := (List.getElem?_eq_some_iff.1 hj).1; rwa [nums_length] at this
 obtain ⟨ad, e, hc⟩ := Kd.at_int h j (by omega) (by omega)
 obtain rfl := Option.some.inj e
 rw [Int.toNat_natCast, add_plain] at hc
 rw [Nat.zero_add, hc, ← hj]
 simp [nums, rd, List.getD, hl]
theorem C_of_cells {w : World} {b : Nat} {l : List Int} (hl : l.length ≤ 9223372036854775807) (h : ∀ j, j < l.length → w.cell? ⟨b, j, none⟩ = some (.int .u8 (l.getD j 0))) : Kd.C (Kd.int .u8) w (some ⟨b, 0, none⟩) l.length l :=
 Kd.C_of_reads (d := (0 : Int)) (h1 := fun _ => rfl) ⟨rfl, hl, fun _ => ⟨_, rfl, fun j hj => by rw [add_plain]; exact h j hj⟩⟩
theorem nums_one (l : List Int) : ∀ u ∈ nums .u8 l, u.oneCell' = true := by
 intro u hu
 simp only [nums, List.mem_map] at hu
 obtain ⟨x, _, rfl⟩ := hu
 rfl
theorem setCells_size (D : Nat) (vs : List Value) (o : Nat) (w : World) : (w.setCells D o vs).heap.size = w.heap.size := by
 induction vs generalizing o w with
 | nil => rfl
 | cons v vs ih => exact (ih (o + 1) _).trans (by simp [World.setCell])
theorem below_setCells {B : Nat} {a w : World} (h : Below B a w) {D : Nat} (hD : B ≤ D) {o : Nat} {vs : List Value} : Below B a (w.setCells D o vs) :=
 h.trans ⟨(setCells_grownBy D vs o w).os, (setCells_grownBy D vs o w).tape, (setCells_grownBy D vs o w).output, (setCells_grownBy D vs o w).size, fun k hk => by
  by_cases hlt : k < w.heap.size
  ·exact (setCells_grownBy D vs o w).block k hlt (fun e => by injection e with e; omega)
  ·have hs : (w.setCells D o vs).heap.size = w.heap.size := setCells_size D vs o w
   rw [Array.getElem?_eq_none (by omega), Array.getElem?_eq_none (by omega)]⟩
set_option maxHeartbeats 4000000 in
set_option maxRecDepth 100000 in
theorem frame_Encode.calls (k : Nat) (a0_0 a0_1 a0_2 a0_3 a0_4 : Int) (A0_5 : Option Addr) (c0_5 : Nat) (l0_5 : List ByteArray) (A0_6 : Option Addr) (c0_6 : Nat) (l0_6 : List S52) (r1 : List Int) (r2 : Int) (w : World) (hL : Laid w)
  (hr0_5 : Kd.C Kd.string w A0_5 l0_5.length l0_5) (hc0_5 : l0_5.length ≤ c0_5) (hr0_6 : Kd.C k52 w A0_6 l0_6.length l0_6) (hc0_6 : l0_6.length ≤ c0_6) (h : frame_Encode.f k a0_0 a0_1 a0_2 a0_3 a0_4 l0_5 l0_6 = some (r1, r2)) :
  Calls Tryd.prog 14 #[.agg #[.int .i64 a0_0, .int .i64 a0_1, .int .i64 a0_2, .int .i64 a0_3, .int .i64 a0_4, .slice A0_5 l0_5.length c0_5, .slice A0_6 l0_6.length c0_6]] w fun e w' => ∃ A c, e = .returned (.tuple #[.slice A r1.length c, .int .i64 r2]) ∧ r1.length ≤ c ∧ Kd.C (Kd.int .u8) w' A r1.length r1 ∧ Below w.heap.size w w' := by
 unfold frame_Encode.f at h
 rw [Option.bind_eq_some_iff] at h
 obtain ⟨ec, hck, h⟩ := h
 have HL := Lib.hid hL
 have HR5 := Lib.hid hr0_5
 have HR6 := Lib.hid hr0_6
 have HCK := Lib.hid hck
 clear hL hr0_5 hr0_6 hck
 by_cases hec : ec = 0
 ·rw [if_pos hec] at h
  have hok : okE a0_0 a0_1 a0_2 a0_3 a0_4 l0_5 l0_6 = true := by
   split at h
   ·assumption
   ·cases h
  rw [if_pos hok, Option.bind_eq_some_iff] at h
  obtain ⟨sm, hsm, h⟩ := h
  simp only [Option.some.injEq, Prod.mk.injEq] at h
  obtain ⟨hr1, rfl⟩ := h
  subst hec
  have HS := Lib.hid hsm
  have HR1 := Lib.hid hr1
  have hsr := frame_Sum.range hsm
  obtain ⟨⟨i00, i01⟩, ⟨i10, i11⟩, ⟨i20, i21⟩, ⟨i30, i31⟩, ⟨i40, i41⟩, heds, hl5, hl6, hT⟩ := okE_open hok
  have HE := Lib.hid heds
  clear hsm hr1 hok heds
  have hbytes := encT_parts a0_0 a0_1 a0_2 a0_3 a0_4 l0_5 l0_6
  have ix0 : ∀ W, (Instr.index 58 (.agg #[.int .i64 a0_0, .int .i64 a0_1, .int .i64 a0_2, .int .i64 a0_3, .int .i64 a0_4]) (.int .i64 0)).run Tryd.prog W = .ok (.int .i64 a0_0) W := fun _ => by kernel_rfl
  have ix1 : ∀ W, (Instr.index 58 (.agg #[.int .i64 a0_0, .int .i64 a0_1, .int .i64 a0_2, .int .i64 a0_3, .int .i64 a0_4]) (.int .i64 1)).run Tryd.prog W = .ok (.int .i64 a0_1) W := fun _ => by kernel_rfl
  have ix2 : ∀ W, (Instr.index 58 (.agg #[.int .i64 a0_0, .int .i64 a0_1, .int .i64 a0_2, .int .i64 a0_3, .int .i64 a0_4]) (.int .i64 2)).run Tryd.prog W = .ok (.int .i64 a0_2) W := fun _ => by kernel_rfl
  have ix3 : ∀ W, (Instr.index 58 (.agg #[.int .i64 a0_0, .int .i64 a0_1, .int .i64 a0_2, .int .i64 a0_3, .int .i64 a0_4]) (.int .i64 3)).run Tryd.prog W = .ok (.int .i64 a0_3) W := fun _ => by kernel_rfl
  have ix4 : ∀ W, (Instr.index 58 (.agg #[.int .i64 a0_0, .int .i64 a0_1, .int .i64 a0_2, .int .i64 a0_3, .int .i64 a0_4]) (.int .i64 4)).run Tryd.prog W = .ok (.int .i64 a0_4) W := fun _ => by kernel_rfl
  have hu31 := Tryd.underlying31
  go_enter Tryd.func14, Tryd.ntmps14
  go_wp2_with fail
  refine (frame_Check.calls k a0_0 a0_1 a0_2 a0_3 a0_4 _ _ l0_5 _ _ l0_6 0 _ (C_of HR5.out (below_alloc (Below.refl _ _) _)) hc0_5 (C_of HR6.out (below_alloc (Below.refl _ _) _)) hc0_6 HCK.out).mono ?_
  rintro e w1 ⟨rfl, hb1⟩
  have HX1 : Hid (w1.heap[w.heap.size]? = some (.cells #[.int .i64 a0_0, .int .i64 a0_1, .int .i64 a0_2, .int .i64 a0_3, .int .i64 a0_4, .slice A0_5 l0_5.length c0_5, .slice A0_6 l0_6.length c0_6] 31 (0, 0))) := Lib.hid ((hb1.block _ (by simp)).trans (heap_alloc_new _ _))
  have HB1 : Hid (Below w.heap.size w w1) := Lib.hid ((below_alloc (Below.refl _ _) _).trans (hb1.mono (by simp)))
  have hs1 : w.heap.size < w1.heap.size := blk_lt HX1.out
  clear hb1
  have HI1 : Hid (IsW w.heap.size (w1.alloc (.cells #[.slice none 0 0, .int .i64 0] 57)) w1.heap.size [] 0) := Lib.hid ⟨HB1.out.size, _, heap_alloc_new _ _, World.ownsRow_nil _ _ _ _⟩
  go_wp2_with fail
  have HX2 : Hid ((w1.alloc (.cells #[.slice none 0 0, .int .i64 0] 57)).heap[w.heap.size]? = some (.cells #[.int .i64 a0_0, .int .i64 a0_1, .int .i64 a0_2, .int .i64 a0_3, .int .i64 a0_4, .slice A0_5 l0_5.length c0_5, .slice A0_6 l0_6.length c0_6] 31 (0, 0))) := Lib.hid (blk_grown HX1.out (World.grownBy_alloc _ _ none) (by simp))
  have HB2 : Hid (Below w.heap.size w (w1.alloc (.cells #[.slice none 0 0, .int .i64 0] 57))) := Lib.hid (below_alloc HB1.out _)
  obtain ⟨g, hg⟩ : ∃ g, g = w1.heap.size := ⟨_, rfl⟩
  rw [← hg] at HI1 ⊢
  have hgb : w.heap.size ≠ g := by omega
  clear hg hs1
  generalize w1.alloc (.cells #[.slice none 0 0, .int .i64 0] 57) = W2 at HI1 HX2 HB2 ⊢
  clear HX1 HB1
  refine (Writer_Open _ g _ _ W2 HI1.out HB2.out.size (by omega) (by omega) (by simp)).mono ?_
  rintro e w3 ⟨rfl, hI3, hK3⟩
  have HI3 := Lib.hid hI3
  have HX3 := Lib.hid (hK3.blk HX2.out hgb (by decide))
  have HB3 := Lib.hid (HB2.out.trans hK3.1)
  clear hI3 hK3 HX2 HB2 HI1
  have x0 : w3.cell? ⟨w.heap.size, 0, none⟩ = some (.int .i64 a0_0) := (blk_cell HX3.out 0).trans rfl
  have x1 : w3.cell? ⟨w.heap.size, 1, none⟩ = some (.int .i64 a0_1) := (blk_cell HX3.out 1).trans rfl
  have x2 : w3.cell? ⟨w.heap.size, 2, none⟩ = some (.int .i64 a0_2) := (blk_cell HX3.out 2).trans rfl
  have x3 : w3.cell? ⟨w.heap.size, 3, none⟩ = some (.int .i64 a0_3) := (blk_cell HX3.out 3).trans rfl
  have x4 : w3.cell? ⟨w.heap.size, 4, none⟩ = some (.int .i64 a0_4) := (blk_cell HX3.out 4).trans rfl
  go_wp2_with fail
  refine wp_loop_rounds 6 ?_
  rw [rounds_succ]
  go_wp2_with fail
  clear x0 x1 x2 x3 x4
  refine (Writer_Int _ g _ _ a0_0 w3 HI3.out HB3.out.size i00 i01 (by have := hbytes; simp only [List.length_append, List.length_cons, List.length_nil] at this ⊢; omega) (fun _ => Lib.TabBelow.on (Laid.tabB HL.out) HB3.out)).mono ?_
  rintro e w4 ⟨rfl, hI4, hK4⟩
  have HI4 := Lib.hid hI4
  have HX4 := Lib.hid (hK4.blk HX3.out hgb (by decide))
  have HB4 := Lib.hid (HB3.out.trans hK4.1)
  clear hI4 hK4 HX3 HB3 HI3
  go_wp2_with fail
  rw [rounds_succ]
  go_wp2_with fail
  refine (Writer_Int _ g _ _ a0_1 w4 HI4.out HB4.out.size i10 i11 (by have := hbytes; simp only [List.length_append, List.length_cons, List.length_nil] at this ⊢; omega) (fun _ => Lib.TabBelow.on (Laid.tabB HL.out) HB4.out)).mono ?_
  rintro e w5 ⟨rfl, hI5, hK5⟩
  have HI5 := Lib.hid hI5
  have HX5 := Lib.hid (hK5.blk HX4.out hgb (by decide))
  have HB5 := Lib.hid (HB4.out.trans hK5.1)
  clear hI5 hK5 HX4 HB4 HI4
  go_wp2_with fail
  rw [rounds_succ]
  go_wp2_with fail
  refine (Writer_Int _ g _ _ a0_2 w5 HI5.out HB5.out.size i20 i21 (by have := hbytes; simp only [List.length_append, List.length_cons, List.length_nil] at this ⊢; omega) (fun _ => Lib.TabBelow.on (Laid.tabB HL.out) HB5.out)).mono ?_
  rintro e w6 ⟨rfl, hI6, hK6⟩
  have HI6 := Lib.hid hI6
  have HX6 := Lib.hid (hK6.blk HX5.out hgb (by decide))
  have HB6 := Lib.hid (HB5.out.trans hK6.1)
  clear hI6 hK6 HX5 HB5 HI5
  go_wp2_with fail
  rw [rounds_succ]
  go_wp2_with fail
  refine (Writer_Int _ g _ _ a0_3 w6 HI6.out HB6.out.size i30 i31 (by have := hbytes; simp only [List.length_append, List.length_cons, List.length_nil] at this ⊢; omega) (fun _ => Lib.TabBelow.on (Laid.tabB HL.out) HB6.out)).mono ?_
  rintro e w7 ⟨rfl, hI7, hK7⟩
  have HI7 := Lib.hid hI7
  have HX7 := Lib.hid (hK7.blk HX6.out hgb (by decide))
  have HB7 := Lib.hid (HB6.out.trans hK7.1)
  clear hI7 hK7 HX6 HB6 HI6
  go_wp2_with fail
  rw [rounds_succ]
  go_wp2_with fail
  refine (Writer_Int _ g _ _ a0_4 w7 HI7.out HB7.out.size i40 i41 (by have := hbytes; simp only [List.length_append, List.length_cons, List.length_nil] at this ⊢; omega) (fun _ => Lib.TabBelow.on (Laid.tabB HL.out) HB7.out)).mono ?_
  rintro e w8 ⟨rfl, hI8, hK8⟩
  have HI8 := Lib.hid hI8
  have HX8 := Lib.hid (hK8.blk HX7.out hgb (by decide))
  have HB8 := Lib.hid (HB7.out.trans hK8.1)
  clear hI8 hK8 HX7 HB7 HI7
  go_wp2_with fail
  rw [rounds_succ]
  have y5 : w8.cell? ⟨w.heap.size, 5, none⟩ = some (.slice A0_5 l0_5.length c0_5) := (blk_cell HX8.out 5).trans rfl
  go_wp2_with fail
  clear ix0 ix1 ix2 ix3 ix4 y5
  refine (putLines_calls w g _ _ A0_5 c0_5 l0_5 w8 HB8.out HI8.out (by omega) (by omega) HR5.out hc0_5 hl5 (by have := hbytes; simp only [List.length_append, List.length_cons, List.length_nil] at this ⊢; omega) (fun _ => Lib.TabBelow.on (Laid.tabB HL.out) HB8.out)).mono ?_
  rintro e w9 ⟨rfl, hI9, hK9⟩
  have HI9 := Lib.hid hI9
  have HX9 := Lib.hid (hK9.blk HX8.out hgb (by decide))
  have HB9 := Lib.hid (HB8.out.trans hK9.1)
  clear hI9 hK9 HX8 HB8 HI8
  go_wp2_with fail
  refine (Writer_Open _ g _ _ w9 HI9.out HB9.out.size (by omega) (by omega) (by have := hbytes; simp only [List.length_append, List.length_cons, List.length_nil] at this ⊢; omega)).mono ?_
  rintro e w10 ⟨rfl, hI10, hK10⟩
  have HI10 := Lib.hid hI10
  have HX10 := Lib.hid (hK10.blk HX9.out hgb (by decide))
  have HB10 := Lib.hid (HB9.out.trans hK10.1)
  clear hI10 hK10 HX9 HB9 HI9
  have y6 : w10.cell? ⟨w.heap.size, 6, none⟩ = some (.slice A0_6 l0_6.length c0_6) := (blk_cell HX10.out 6).trans rfl
  obtain ⟨lp, hlp⟩ : ∃ lp, [] ++ [(108 : Int)] ++ (105 :: bl (Lib.itoa a0_0) ++ [59]) ++ (105 :: bl (Lib.itoa a0_1) ++ [59]) ++ (105 :: bl (Lib.itoa a0_2) ++ [59]) ++ (105 :: bl (Lib.itoa a0_3) ++ [59]) ++ (105 :: bl (Lib.itoa a0_4) ++ [59]) ++ (108 :: txts l0_5 ++ [101]) ++ [108] = lp := ⟨_, rfl⟩
  have hlpl : lp.length + (edsT l0_6).length = (encT a0_0 a0_1 a0_2 a0_3 a0_4 l0_5 l0_6).length := by rw [← hlp]; have := hbytes; simp only [List.length_append, List.length_cons, List.length_nil] at this ⊢; omega
  have hlpe : lp ++ edsT l0_6 = encT a0_0 a0_1 a0_2 a0_3 a0_4 l0_5 l0_6 := by rw [← hlp]; simp [encT, intT]
  rw [hlp] at HI10
  have HLE := Lib.hid hlpe
  clear hlp hlpe
  go_wp2_with fail
  go_loopw [42] (fun v wr => ∃ q : Nat, q ≤ l0_6.length ∧ v = .int .i64 q ∧ Hid (IsW w.heap.size wr g (lp ++ edsT (l0_6.take q)) 2) ∧ Hid (Below w.heap.size w wr)) (fun v _ => l0_6.length - (intOf v).toNat)
  case atStart => exact ⟨0, by omega, rfl, by simpa [edsT] using HI10, HB10⟩
  case round =>
   obtain ⟨q, hq, rfl, HIq, HBq⟩ := hrel
   clear HI10 HB10 HX10 y6
   by_cases hlt : q < l0_6.length
   ·obtain ⟨ad, Ax, cx, rfl, hx0, hx1, hx2, hcx, hgx⟩ := at_T52 (C_of HR6.out HBq.out) q (by omega) (by omega)
    have hsn := Lib.hid (edsT_snoc l0_6 q hlt)
    have hle := edsT_le l0_6 q hlt
    have hrx := at_T52 HR6.out q (by omega) (by omega)
    obtain ⟨x, hx⟩ : ∃ x, rd_T52 l0_6 q = x := ⟨_, rfl⟩
    have hmem : x ∈ l0_6 := by rw [← hx]; simp [rd_T52, List.getD, hlt]
    obtain ⟨⟨p0, p1⟩, ⟨p2, p3⟩, p4⟩ := HE.out x hmem
    rw [hx] at hx0 hx1 hx2 hcx hgx hsn hle hrx
    have hAx : Kd.C Kd.string w Ax x.f2.length x.f2 := by
     obtain ⟨ad', A', c', e', _, _, h2', _, hg'⟩ := hrx
     obtain rfl := Option.some.inj e'
     have h3 := (HBq.out.cell (World.block_lt_of_cell? w _ h2')).trans h2'
     have h4 := hx2.symm.trans h3
     injection h4 with h4
     injection h4 with h4 _ _
     rw [h4]; exact hg'
    have HGX := Lib.hid hAx
    have HHX := Lib.hid hx
    clear hx hgx hrx hmem hAx
    rw [Int.toNat_natCast] at hx0 hx1 hx2
    have hu52 := Tryd.underlying52
    go_wp2_with fail
    have HI11 : Hid (IsW w.heap.size (wr.alloc (Obj.cells #[Value.int IntKind.i64 x.f0, Value.int IntKind.i64 x.f1, Value.slice Ax x.f2.length cx] 52)) g (lp ++ edsT (l0_6.take q)) 2) := Lib.hid (HIq.out.alloc _)
    have HB11 : Hid (Below w.heap.size w (wr.alloc (Obj.cells #[Value.int IntKind.i64 x.f0, Value.int IntKind.i64 x.f1, Value.slice Ax x.f2.length cx] 52))) := Lib.hid (below_alloc HBq.out _)
    have HX11 : Hid ((wr.alloc (Obj.cells #[Value.int IntKind.i64 x.f0, Value.int IntKind.i64 x.f1, Value.slice Ax x.f2.length cx] 52)).heap[wr.heap.size]? = some (.cells #[Value.int IntKind.i64 x.f0, Value.int IntKind.i64 x.f1, Value.slice Ax x.f2.length cx] 52 (0, 0))) := Lib.hid (heap_alloc_new _ _)
    have hgb2 : wr.heap.size ≠ g := by have := HIq.out.lt; omega
    generalize hbx : wr.heap.size = bx at HX11 hgb2 ⊢
    have HBX := Lib.hid hbx
    clear hbx
    generalize wr.alloc (Obj.cells #[Value.int IntKind.i64 x.f0, Value.int IntKind.i64 x.f1, Value.slice Ax x.f2.length cx] 52) = w11 at HI11 HB11 HX11 ⊢
    clear hx0 hx1 hx2 HIq
    refine (Writer_Open _ g _ _ w11 HI11.out HB11.out.size (by omega) (by omega) (by have h1 := hlpl; have h2 := hle; have h3 := hT; simp only [editT, intT, List.length_append, List.length_cons, List.length_nil] at h1 h2 ⊢; omega)).mono ?_
    rintro e w12 ⟨rfl, hI12, hK12⟩
    have HI12 := Lib.hid hI12
    have HX12 := Lib.hid (hK12.blk HX11.out hgb2 (by decide))
    have HB12 := Lib.hid (HB11.out.trans hK12.1)
    clear hI12 hK12 HX11 HB11 HI11
    have z0 : w12.cell? ⟨bx, 0, none⟩ = some (.int .i64 x.f0) := (blk_cell HX12.out 0).trans rfl
    go_wp2_with fail
    clear z0
    refine (Writer_Int _ g _ _ x.f0 w12 HI12.out HB12.out.size p0 p1 (by have h1 := hlpl; have h2 := hle; have h3 := hT; simp only [editT, intT, List.length_append, List.length_cons, List.length_nil] at h1 h2 ⊢; omega) (fun _ => Lib.TabBelow.on (Laid.tabB HL.out) HB12.out)).mono ?_
    rintro e w13 ⟨rfl, hI13, hK13⟩
    have HI13 := Lib.hid hI13
    have HX13 := Lib.hid (hK13.blk HX12.out hgb2 (by decide))
    have HB13 := Lib.hid (HB12.out.trans hK13.1)
    clear hI13 hK13 HX12 HB12 HI12
    have z1 : w13.cell? ⟨bx, 1, none⟩ = some (.int .i64 x.f1) := (blk_cell HX13.out 1).trans rfl
    go_wp2_with fail
    clear z1
    refine (Writer_Int _ g _ _ x.f1 w13 HI13.out HB13.out.size p2 p3 (by have h1 := hlpl; have h2 := hle; have h3 := hT; simp only [editT, intT, List.length_append, List.length_cons, List.length_nil] at h1 h2 ⊢; omega) (fun _ => Lib.TabBelow.on (Laid.tabB HL.out) HB13.out)).mono ?_
    rintro e w14 ⟨rfl, hI14, hK14⟩
    have HI14 := Lib.hid hI14
    have HX14 := Lib.hid (hK14.blk HX13.out hgb2 (by decide))
    have HB14 := Lib.hid (HB13.out.trans hK14.1)
    clear hI14 hK14 HX13 HB13 HI13
    have z2 : w14.cell? ⟨bx, 2, none⟩ = some (.slice Ax x.f2.length cx) := (blk_cell HX14.out 2).trans rfl
    go_wp2_with fail
    clear z2
    refine (putLines_calls w g _ _ Ax cx x.f2 w14 HB14.out HI14.out (by omega) (by omega) HGX.out hcx p4 (by have h1 := hlpl; have h2 := hle; have h3 := hT; simp only [editT, intT, List.length_append, List.length_cons, List.length_nil] at h1 h2 ⊢; omega) (fun _ => Lib.TabBelow.on (Laid.tabB HL.out) HB14.out)).mono ?_
    rintro e w15 ⟨rfl, hI15, hK15⟩
    have HI15 := Lib.hid hI15
    have HX15 := Lib.hid (hK15.blk HX14.out hgb2 (by decide))
    have HB15 := Lib.hid (HB14.out.trans hK15.1)
    clear hI15 hK15 HX14 HB14 HI14
    go_wp2_with fail
    refine (Writer_Close _ g _ _ w15 HI15.out HB15.out.size (by omega) (by omega) (by have h1 := hlpl; have h2 := hle; have h3 := hT; simp only [editT, intT, List.length_append, List.length_cons, List.length_nil] at h1 h2 ⊢; omega)).mono ?_
    rintro e w16 ⟨rfl, hI16, hK16⟩
    have HI16 := Lib.hid hI16
    have HX16 := Lib.hid (hK16.blk HX15.out hgb2 (by decide))
    have HB16 := Lib.hid (HB15.out.trans hK16.1)
    clear hI16 hK16 HX15 HB15 HI15
    go_wp2_with fail
    go_roundw
    case rel => exact ⟨q + 1, by omega, by go_num, Lib.hid (by have h := HI16.out; rw [hsn.out]; simp only [editT, intT]; simpa using h), HB16⟩
    case measure => simp [intOf]; omega
   ·obtain rfl : q = l0_6.length := by omega
    rw [List.take_length] at HIq
    go_wp2_with fail
    refine (Writer_Data _ g _ 2 wr (by exact HIq.out) (by omega) (by have h1 := hlpl; simp only [List.length_append] at h1 ⊢; omega)).mono ?_
    rintro e w20 ⟨rfl, hb20⟩
    have HB20 := Lib.hid (HBq.out.trans (hb20.mono HBq.out.size))
    clear hb20
    obtain ⟨str, hstr⟩ : ∃ str, strOfNums (lp ++ edsT l0_6) ++ ⟨(Lib.repeatL [101] 2).toArray⟩ = str := ⟨_, rfl⟩
    have hbo : bytesOf str = encB a0_0 a0_1 a0_2 a0_3 a0_4 l0_5 l0_6 := by
     rw [← hstr, HLE.out]
     exact bytesOf_enc _ (okBytes_left (frame_Sum.ok HS.out))
    have hss : str.size = (encB a0_0 a0_1 a0_2 a0_3 a0_4 l0_5 l0_6).length := by rw [← hbo, bytesOf_length]
    have hsl : str.size ≤ 140737488351232 := by rw [hss]; simp only [encB, List.length_append, List.length_cons, List.length_nil]; omega
    rw [hstr]
    have HBO := Lib.hid hbo
    have HSS := Lib.hid hss
    clear hstr hbo hss
    have kc := print_bytes (P := Tryd.prog) 9 22 5 Tryd.underlying9 Tryd.underlying22 Tryd.underlying5 str w20
    have hcap : str.size ≤ grownCap w20 str.size 0 5 := grownCap_ge _ _ _ _
    have hcap2 : grownCap w20 str.size 0 5 ≤ maxLen := grownCap_le_maxLen _ _ _ _ (by unfold maxLen; omega)
    have HY : Hid ((Lib.bytesWorld w20 5 str).heap[w20.heap.size]? = some (.cells (Lib.bytesCells w20 5 str) 5 ((Lib.bytesCells w20 5 str).size, (Lib.bytesCells w20 5 str).size + 1))) := Lib.hid (Lib.bytesWorld_at_new _ _ _)
    have HYS : Hid ((Lib.bytesCells w20 5 str).size = grownCap w20 str.size 0 5) := Lib.hid (bytesCells_size _ _ _ hcap)
    have HYC : Hid (Kd.C (Kd.int .u8) (Lib.bytesWorld w20 5 str) (some ⟨w20.heap.size, 0, none⟩) (encB a0_0 a0_1 a0_2 a0_3 a0_4 l0_5 l0_6).length (encB a0_0 a0_1 a0_2 a0_3 a0_4 l0_5 l0_6)) := Lib.hid (by rw [← HSS.out, ← HBO.out]; exact Kd.C_of_reads (d := (0 : Int)) (h1 := fun _ => rfl) (bytes_reads _ _ _ (by omega)))
    have HB21 : Hid (Below w.heap.size w (Lib.bytesWorld w20 5 str)) := Lib.hid (bytes_below HB20.out HB20.out.size _ _)
    go_wp2_with fail
    generalize Lib.bytesWorld w20 5 str = W21 at HY HYC HB21 ⊢
    generalize Lib.bytesCells w20 5 str = cb at HY HYS
    generalize grownCap w20 str.size 0 5 = cap at hcap hcap2 HYS ⊢
    have hbo : w.heap.size ≤ w20.heap.size := HB20.out.size
    generalize w20.heap.size = bo at HY HYC hbo ⊢
    clear kc HB20
    refine (Sum_n _ _ str.size cap () sm W21 HSS.out.symm HYC.out hcap HS.out).mono ?_
    rintro e w22 ⟨rfl, hb22⟩
    have HB22 := Lib.hid (HB21.out.trans (hb22.mono HB21.out.size))
    have HY22 := Lib.hid ((hb22.block bo (blk_lt HY.out)).trans HY.out)
    have HYC22 := Lib.hid (Kd.C_below HYC.out hb22)
    clear hb22 HY HYC HB21
    go_wp2_with fail
    refine (digits_calls sm hsr.1 hsr.2 w22).mono ?_
    rintro e w23 ⟨rfl, hb23⟩
    have HB23 := Lib.hid (HB22.out.trans (hb23.mono HB22.out.size))
    have HY23 := Lib.hid ((hb23.block bo (blk_lt HY22.out)).trans HY22.out)
    have HYC23 := Lib.hid (cells_of_C (Kd.C_below HYC22.out hb23))
    clear hb23 HB22 HY22 HYC22
    have HBW : Hid (Below w.heap.size w (w23.alloc (.cells #[.int .u8 (dgt (sm / 4096)), .int .u8 (dgt (sm / 256)), .int .u8 (dgt (sm / 16)), .int .u8 (dgt sm)] 63))) := Lib.hid (below_alloc HB23.out _)
    have HYW : Hid ((w23.alloc (.cells #[.int .u8 (dgt (sm / 4096)), .int .u8 (dgt (sm / 256)), .int .u8 (dgt (sm / 16)), .int .u8 (dgt sm)] 63)).heap[bo]? = some (.cells cb 5 (cb.size, cb.size + 1))) := Lib.hid (blk_grown HY23.out (World.grownBy_alloc _ _ none) (by simp))
    have HCW : Hid (∀ j u, (nums .u8 (encB a0_0 a0_1 a0_2 a0_3 a0_4 l0_5 l0_6))[j]? = some u → (w23.alloc (.cells #[.int .u8 (dgt (sm / 4096)), .int .u8 (dgt (sm / 256)), .int .u8 (dgt (sm / 16)), .int .u8 (dgt sm)] 63)).cell? ⟨bo, 0 + j, none⟩ = some u) := Lib.hid (fun j u hj => (World.cell?_of_block (a := ⟨bo, 0 + j, none⟩) ((World.grownBy_alloc w23 _ none).block bo (blk_lt HY23.out) (by simp))).trans (HYC23.out j u hj))
    have HDW : Hid ((w23.alloc (.cells #[.int .u8 (dgt (sm / 4096)), .int .u8 (dgt (sm / 256)), .int .u8 (dgt (sm / 16)), .int .u8 (dgt sm)] 63)).heap[w23.heap.size]? = some (.cells (nums .u8 (digs sm)).toArray 63 (0, 0))) := Lib.hid (heap_alloc_new _ _)
    obtain ⟨i0, hi, hz0, hz1, hz2⟩ := info_parts info5
    go_wp2_with (at_builtin; refine wpList_append_arg _ rfl _ _ 22 rfl 5 i0 (.int .u8 0) 1 1 Tryd.underlying22 hi hz0 hz1 hz2 rfl (by decide) bo 0 str.size cap (nums .u8 (encB a0_0 a0_1 a0_2 a0_3 a0_4 l0_5 l0_6)) rfl (by rw [nums_length, HSS.out, Nat.mul_one]) HCW.out ⟨w23.heap.size, 0, none⟩ 4 4 (nums .u8 (digs sm)) rfl (by rw [nums_length]; rfl) (World.news_of_block HDW.out) (nums_one _) ?q5 (by unfold maxLen; omega) (by omega) ?q8 ?q9)
    case q5 =>
     intro hr j hj
     rw [nums_length] at hj
     have hj4 : j < 4 := hj
     have hcs := HYS.out
     rw [cell_of_row _ _ _ _ _ _ HYW.out]
     refine ⟨by simp; omega, ?_⟩
     simp only [World.frozen?, HYW.out]
     simp; omega
    case q8 =>
     intro hr
     go_wp2
     go_ret2
     have hlen : (encB a0_0 a0_1 a0_2 a0_3 a0_4 l0_5 l0_6 ++ digs sm).length = str.size + 4 := by rw [List.length_append, HSS.out]; rfl
     rw [← HR1.out]
     refine ⟨some ⟨bo, 0, none⟩, cap, by rw [hlen]; rfl, by rw [hlen]; exact hr, ?_, below_setCells HBW.out hbo⟩
     refine C_of_cells (by rw [hlen]; omega) (fun j hj => ?_)
     rw [hlen] at hj
     have hel := HSS.out
     by_cases hjl : j < str.size
     ·rw [World.cell?_setCells_out bo _ _ _ _ (fun _ _ => .inl hjl)]
      have h := HCW.out j (.int .u8 ((encB a0_0 a0_1 a0_2 a0_3 a0_4 l0_5 l0_6).getD j 0)) (by rw [hel] at hjl; simp [nums, List.getD, hjl])
      rw [Nat.zero_add] at h
      rw [h]
      rw [hel] at hjl
      simp [List.getD, List.getElem?_append, hjl]
     ·have h := World.cell?_setCells_in bo (nums .u8 (digs sm)) str.size (w23.alloc (.cells #[.int .u8 (dgt (sm / 4096)), .int .u8 (dgt (sm / 256)), .int .u8 (dgt (sm / 16)), .int .u8 (dgt sm)] 63)) (fun i hi => by
       rw [nums_length] at hi
       have hi4 : i < 4 := hi
       have hcs := HYS.out
       rw [cell_of_row _ _ _ _ _ _ HYW.out]
       simp; omega) (j - str.size) (by rw [nums_length]; show j - str.size < 4; omega)
      rw [show str.size + (j - str.size) = j from by omega] at h
      rw [h]
      have hnl : ¬ j < (encB a0_0 a0_1 a0_2 a0_3 a0_4 l0_5 l0_6).length := by omega
      have hj4 : j - str.size < (digs sm).length := by show j - str.size < 4; omega
      rw [List.getD_eq_getElem?_getD, List.getElem?_append_right (by omega), ← hel, List.getElem?_eq_getElem hj4]
      simp [nums]
    case q9 =>
     intro hr v' w' hown hgrow
     obtain ⟨A9, k9, rfl, hrd⟩ := own_reads (xs := encB a0_0 a0_1 a0_2 a0_3 a0_4 l0_5 l0_6 ++ digs sm) (by rw [nums_append]; exact hown)
     have hkc := own_cap hown
     have HRD := Lib.hid hrd
     have HGR := Lib.hid hgrow
     clear hrd hgrow hown
     go_wp2
     go_ret2
     have hlen : (encB a0_0 a0_1 a0_2 a0_3 a0_4 l0_5 l0_6 ++ digs sm).length = str.size + 4 := by rw [List.length_append, HSS.out]; rfl
     rw [← HR1.out]
     refine ⟨A9, k9, by rw [hlen]; rfl, by rw [hlen]; exact hkc, by rw [hlen]; exact Kd.C_of_reads (d := (0 : Int)) (h1 := fun _ => rfl) HRD.out, HBW.out.grown HGR.out HBW.out.size (by simp)⟩
 ·rw [if_neg hec] at h
  have hn : (ec != 0) = true := bne_iff_ne.mpr hec
  simp only [Option.some.injEq, Prod.mk.injEq] at h
  obtain ⟨rfl, rfl⟩ := h
  have hu31 := Tryd.underlying31
  go_enter Tryd.func14, Tryd.ntmps14
  go_wp2_with fail
  refine (frame_Check.calls k a0_0 a0_1 a0_2 a0_3 a0_4 _ _ l0_5 _ _ l0_6 ec _ (C_of HR5.out (below_alloc (Below.refl _ _) _)) hc0_5 (C_of HR6.out (below_alloc (Below.refl _ _) _)) hc0_6 HCK.out).mono ?_
  rintro e w1 ⟨rfl, hb1⟩
  have HB1 := Lib.hid hb1
  clear hb1
  go_wp2_with fail
  go_ret2
  exact ⟨none, 0, rfl, Nat.le_refl _, Kd.C_nil _ _, (below_alloc (Below.refl _ _) _).trans (HB1.out.mono (by simp))⟩
end Go.Proofs.YtfpopmojlmpopaaDoor.H

end
section
namespace Go.Proofs.YtfpopmojlmpopaaDoor.H
open Go.RowKit Go.Proofs.YtfpopmojlmpopaaDoorW.PrintWords Go.Proofs.YtfpopmojlmpopaaDoorW.PrintLast Go.Proofs.YtfpopmojlmpopaaDoorW.PrintMore Go.Proofs.YtfpopmojlmpopaaDoor.G
set_option linter.unusedVariables false
set_option linter.unusedSimpArgs false
theorem arr_at (w : World) (ad : Addr) (c : Nat) : (Instr.arrayAt 63 (.slice (some ad) 4 c)).run Tryd.prog w = .ok (.pointer (some ad)) w := by
 simp only [Instr.arrayAt, run_underlying Tryd.underlying63, Sem.run_bind, Result.andThen_ok]
 simp
theorem arr_eq4 (w : World) (a0 a1 a2 a3 b0 b1 b2 b3 : Int) : (Op.equalIn 10000 63 (.agg #[.int .u8 a0, .int .u8 a1, .int .u8 a2, .int .u8 a3]) (.agg #[.int .u8 b0, .int .u8 b1, .int .u8 b2, .int .u8 b3])).run Tryd.prog w = .ok (a0 == b0 && (a1 == b1 && (a2 == b2 && a3 == b3))) w := by
 have hu := Tryd.underlying63
 have h5 := Tryd.underlying5
 have e : ∀ a b : Int, (Op.equalIn 9999 5 (.int .u8 a) (.int .u8 b)).run Tryd.prog w = .ok (a == b) w := fun a b => run_equalIn_int w 9998 5 .u8 .u8 a b h5
 have hs : (sizeOf 5).run Tryd.prog w = .ok 1 w := by kernel_rfl
 have hp : ∀ (c0 c1 c2 c3 : Value) (k : Nat) (hk : k < 4), (part 5 #[c0, c1, c2, c3] k).run Tryd.prog w = .ok (#[c0, c1, c2, c3].getD k undef) w := by
  intro c0 c1 c2 c3 k hk
  have hi : (isAgg 5).run Tryd.prog w = .ok false w := by kernel_rfl
  match k, hk with
  | 0, _ => simp [part, Sem.run_bind, hi]
  | 1, _ => simp [part, Sem.run_bind, hi]
  | 2, _ => simp [part, Sem.run_bind, hi]
  | 3, _ => simp [part, Sem.run_bind, hi]
 rw [Op.equalIn]
 simp only [Sem.run_bind, run_underlying hu, Result.andThen_ok, hs]
 simp [List.range', Sem.run_bind, e, hp]
 by_cases h0 : a0 = b0 <;> by_cases h1 : a1 = b1 <;> by_cases h2 : a2 = b2 <;> by_cases h3 : a3 = b3 <;> simp [h0, h1, h2, h3]
theorem dec_ret (tm : Array Value) (W : World) (gq : Nat) (cs : Array Value) (n : Int) (h2 : tm.getD 2 undef = .pointer (some ⟨gq, 0, none⟩)) (h3 : tm.getD 3 undef = .int .i64 n)
  (hg : W.heap[gq]? = some (.cells cs 31 (0, 0))) (hs : cs.size = 7) : (results Tryd.f15 tm).run Tryd.prog W = .ok (.tuple #[.agg cs, .int .i64 n]) W := by
 rw [results_cell_tmp (fn := Tryd.f15) (p := 2) (u := 3) (ty := 31) rfl, h2, h3]
 have hu := Tryd.underlying31
 have hi : (Tryd.prog.info? 31).map (·.size) = some cs.size := by rw [hs]; kernel_rfl
 have := run_loadVar_row W gq 31 31 cs (0, 0) _ hg hu rfl hi
 simp only [asAddr, Sem.run_pure, Result.andThen_ok, this]
theorem dec_row {W : World} {gq : Nat} {old cs : Array Value} (hg : W.heap[gq]? = some (.cells old 31 (0, 0))) : (W.setRow gq cs).heap[gq]? = some (.cells cs 31 (0, 0)) := setRow_heap _ _ _ _ _ _ hg
theorem dec_kept {α : Type} {d : Kd α} {e : Nat} {W : World} {gq b : Nat} {old cs : Array Value} {v : Value} {l : List α} {X : Nat → Prop} (h : Kd.R d e W b X v l) (hq : W.heap[gq]? = some (.cells old 31 (0, 0))) (ht : ∀ q, q ∈ e :: d.E → q ≠ 31) : Kd.R d e (W.setRow gq cs) b (fun _ => True) v l :=
 Kd.R_mono (Kd.R_grown (Kd.R_types h hq ht) (setRow_grownBy W gq cs) (fun k hk => by intro he; exact hk.2 (by injection he))) (fun _ _ => trivial)
set_option maxHeartbeats 8000000 in
set_option maxRecDepth 100000 in
theorem frame_Decode.calls (K : Nat) (A0 : Option Addr) (c0 : Nat) (l0 : List Int) (r1 r2 r3 r4 r5 : Int) (r6 : List ByteArray) (r7 : List S52) (r8 : Int) (w : World) (hLd : Laid w)
  (hr0 : Kd.C (Kd.int .u8) w A0 l0.length l0) (hc0 : l0.length ≤ c0) (h : frame_Decode.f K l0 = some (r1, r2, r3, r4, r5, r6, r7, r8)) :
  Calls Tryd.prog 15 #[.slice A0 l0.length c0] w fun e w' => ∃ v0 v1, e = .returned (.tuple #[.agg #[.int .i64 r1, .int .i64 r2, .int .i64 r3, .int .i64 r4, .int .i64 r5, v0, v1], .int .i64 r8]) ∧ Kd.R Kd.string 9 w' w.heap.size (fun _ => True) v0 r6 ∧ Kd.R k52 52 w' w.heap.size (fun _ => True) v1 r7 ∧ Below w.heap.size w w' := by
 have HL := Lib.hid hLd
 have HR0 := Lib.hid hr0
 clear hLd hr0
 have hbig := Kd.C_max HR0.out
 go_enter Tryd.func15, Tryd.ntmps15
 go_wp2_with fail
 have HBQ : Hid ((w.alloc (Obj.cells #[.int .i64 0, .int .i64 0, .int .i64 0, .int .i64 0, .int .i64 0, .slice none 0 0, .slice none 0 0] 31)).heap[w.heap.size]? = some (.cells zF 31 (0, 0))) := Lib.hid (heap_alloc_new _ _)
 have HB0 : Hid (Below w.heap.size w (w.alloc (Obj.cells #[.int .i64 0, .int .i64 0, .int .i64 0, .int .i64 0, .int .i64 0, .slice none 0 0, .slice none 0 0] 31))) := Lib.hid (below_alloc (Below.refl _ _) _)
 generalize w.alloc (Obj.cells #[.int .i64 0, .int .i64 0, .int .i64 0, .int .i64 0, .int .i64 0, .slice none 0 0, .slice none 0 0] 31) = W0 at HBQ HB0 ⊢
 by_cases h4 : l0.length < 4
 ·rw [frame_Decode.f, if_pos h4] at h
  simp only [Option.some.injEq, Prod.mk.injEq] at h
  obtain ⟨rfl, rfl, rfl, rfl, rfl, rfl, rfl, rfl⟩ := h
  have c1 : decide ((l0.length : Int) - 4 < 0) = true := decide_eq_true (by omega)
  go_quiet (fail)
  go_wp2_with (first
   | (refine wpList_store_row rfl _ _ _ rfl w.heap.size #[.int .i64 0, .int .i64 0, .int .i64 0, .int .i64 0, .int .i64 0, .slice none 0 0, .slice none 0 0] rfl rfl 31 zF HBQ.out (by kernel_rfl) (by kernel_rfl) (by kernel_rfl) ?_))
  refine bodyPost_ret (dec_ret _ _ w.heap.size _ 12 rfl rfl (dec_row HBQ.out) rfl) rfl ?_
  exact ⟨_, _, rfl, Kd.R_nil _ _ _ _ _, Kd.R_nil _ _ _ _ _, below_setRow (pw_below_drewN HB0.out _) (Nat.le_refl _) _⟩
 ·rw [frame_Decode.f, if_neg h4] at h
  obtain ⟨n, hn⟩ : ∃ n, l0.length = n + 4 := ⟨l0.length - 4, by omega⟩
  have hn' : l0.length - 4 = n := by omega
  rw [hn'] at h
  replace h := Option.bind_eq_some_iff.mp h
  obtain ⟨sm, hsm, h⟩ := h
  have HSR := Lib.hid (frame_Sum.range hsm)
  obtain ⟨ad, rfl, -⟩ := Kd.at_int HR0.out 0 (by omega) (by omega)
  have hl1 : (l0.take n).length = n := by rw [List.length_take]; omega
  have hl2 : (l0.drop n).length = 4 := by rw [List.length_drop]; omega
  have hC1 := Kd.C_take HR0.out (m := n) (by omega)
  have hC2 := Kd.C_drop HR0.out (m := n) (c := c0) (by omega) hc0
  rw [if_neg (by omega : ¬ c0 = n)] at hC2
  have H := Lib.hid h
  clear h
  obtain ⟨l1, hl1e⟩ : ∃ l1, l0.take n = l1 := ⟨_, rfl⟩
  obtain ⟨l2, hl2e⟩ : ∃ l2, l0.drop n = l2 := ⟨_, rfl⟩
  rw [hl1e] at hsm hC1 hl1 H
  rw [hl2e] at hC2 hl2 H
  obtain ⟨ad2, had2⟩ : ∃ ad2, ad.add n = ad2 := ⟨_, rfl⟩
  have HC1 : Hid (Calls Tryd.prog 11 #[.slice (some ad) n c0] W0.drew fun e w' => e = .returned (.int .u16 sm) ∧ Below W0.drew.heap.size W0.drew w') :=
   Lib.hid (Sum_n (some ad) l1 n c0 () sm W0.drew hl1 (Kd.C_below (Kd.C_below hC1 HB0.out) (below_drew1 (Below.refl _ _))) (by omega) hsm)
  obtain ⟨d2, o2, f2⟩ := ad2
  obtain ⟨b0, b1, b2, b3, rfl⟩ : ∃ b0 b1 b2 b3, l2 = [b0, b1, b2, b3] := by
   match l2, hl2 with
   | [b0, b1, b2, b3], _ => exact ⟨b0, b1, b2, b3, rfl⟩
  have HCELL : Hid (∀ W, Below W0.heap.size W0 W → W.cell? ⟨d2, o2, f2⟩ = some (.int .u8 b0) ∧ W.cell? ⟨d2, o2 + 1, none⟩ = some (.int .u8 b1) ∧ W.cell? ⟨d2, o2 + 2, none⟩ = some (.int .u8 b2) ∧ W.cell? ⟨d2, o2 + 3, none⟩ = some (.int .u8 b3)) := Lib.hid (by
   intro W hW
   have hc := Kd.C_below (Kd.C_below hC2 HB0.out) hW
   rw [Option.map_some, show ad.add (n * (Kd.int .u8).sz) = ad.add n from by rw [show (Kd.int .u8).sz = 1 from rfl, Nat.mul_one], had2] at hc
   refine ⟨?_, ?_, ?_, ?_⟩
   ·obtain ⟨ax, hx, hcx⟩ := Kd.at_int hc 0 (by omega) (by simp)
    injection hx with hx; subst hx; simpa [Addr.add, rd] using hcx
   ·obtain ⟨ax, hx, hcx⟩ := Kd.at_int hc 1 (by omega) (by simp)
    injection hx with hx; subst hx; simpa [Addr.add, rd] using hcx
   ·obtain ⟨ax, hx, hcx⟩ := Kd.at_int hc 2 (by omega) (by simp)
    injection hx with hx; subst hx; simpa [Addr.add, rd] using hcx
   ·obtain ⟨ax, hx, hcx⟩ := Kd.at_int hc 3 (by omega) (by simp)
    injection hx with hx; subst hx; simpa [Addr.add, rd] using hcx)
  have hAT : ∀ W, (Instr.arrayAt 63 (.slice (some ⟨d2, o2, f2⟩) 4 (c0 - n))).run Tryd.prog W = .ok (.pointer (some ⟨d2, o2, f2⟩)) W := fun W => arr_at W _ _
  have HC0 := Lib.hid hC1
  clear hC1 hC2 hsm
  obtain ⟨q, hqe, hEQ⟩ : ∃ q : Bool, (q = true ↔ digs sm = [b0, b1, b2, b3]) ∧ ∀ W, (Op.equalIn 10000 63 (.agg #[.int .u8 (dgt (sm / 4096)), .int .u8 (dgt (sm / 256)), .int .u8 (dgt (sm / 16)), .int .u8 (dgt sm)]) (.agg #[.int .u8 b0, .int .u8 b1, .int .u8 b2, .int .u8 b3])).run Tryd.prog W = .ok q W :=
   ⟨_, by simp [digs], fun W => arr_eq4 W _ _ _ _ _ _ _ _⟩
  have HQE := Lib.hid hqe
  clear hqe
  have c1 : decide ((l0.length : Int) - 4 < 0) = false := decide_eq_false (by omega)
  have c2 : (l0.length : Int) - 4 = (n : Int) := by omega
  have c3 := eq_true (show n ≤ c0 from by omega)
  have c4 := eq_true (show (n : Int) ≤ (n : Int) + 4 from by omega)
  have c5 := eq_false (show ¬ c0 = n from by omega)
  have c6 := decide_eq_false (show ¬ (n : Int) < 0 from by omega)
  have c7 := eq_false (show ¬ (n : Int) < 0 from by omega)
  go_wp2_with fail
  refine start_ (n := 15) (S := fun w' => w'.cell? ⟨d2, o2, f2⟩ = some (.int .u8 b0) ∧ w'.cell? ⟨d2, o2 + 1, none⟩ = some (.int .u8 b1) ∧ w'.cell? ⟨d2, o2 + 2, none⟩ = some (.int .u8 b2) ∧ w'.cell? ⟨d2, o2 + 3, none⟩ = some (.int .u8 b3)) (ds := []) #[false, false, false, false, false, false, false, false, false, false, false, false, false, false, false] (by kernel_rfl) rfl rfl ⟨(HCELL.out W0 (Below.refl _ _)).1, (HCELL.out W0 (Below.refl _ _)).2.1, (HCELL.out W0 (Below.refl _ _)).2.2.1, (HCELL.out W0 (Below.refl _ _)).2.2.2⟩ (fun hHeld => ?_)
  refine pure_ (i := 0) (N := some 13) (v := ?_) (a' := ?_) #[true, false, false, false, false, false, false, false, false, false, false, false, false, false, false] rfl rfl (by kernel_rfl) (fun _ _ _ h => h) (Or.inl ⟨by rfl, ?_⟩) ?_ ?_
  rotate_left
  ·intro w'
   go_simp
   with_reducible rfl
  rotate_left
  ·simp only [Act.put, sA_, sB_, sC_, i64_w, i32_w]
   rfl
  refine pure_ (i := 1) (N := some 14) (v := ?_) (a' := ?_) #[true, true, false, false, false, false, false, false, false, false, false, false, false, false, false] rfl rfl (by kernel_rfl) (fun _ _ _ h => h) (Or.inl ⟨by rfl, ?_⟩) ?_ ?_
  rotate_left
  ·intro w'
   go_simp
   with_reducible rfl
  rotate_left
  ·simp only [Act.put, sA_, sB_, sC_, i64_w, i32_w]
   rfl
  refine pure_ (i := 2) (N := some 15) (v := ?_) (a' := ?_) #[true, true, true, false, false, false, false, false, false, false, false, false, false, false, false] rfl rfl (by kernel_rfl) (fun _ _ _ h => h) (Or.inl ⟨by rfl, ?_⟩) ?_ ?_
  rotate_left
  ·intro w'
   go_simp
   with_reducible rfl
  rotate_left
  ·simp only [Act.put, sA_, sB_, sC_, i64_w, i32_w]
   rfl
  refine pure_ (i := 3) (N := some 16) (v := ?_) (a' := ?_) #[true, true, true, true, false, false, false, false, false, false, false, false, false, false, false] rfl rfl (by kernel_rfl) (fun _ _ _ h => h) (Or.inl ⟨by rfl, ?_⟩) ?_ ?_
  rotate_left
  ·intro w'
   go_simp
   with_reducible rfl
  rotate_left
  ·simp only [Act.put, sA_, sB_, sC_, i64_w, i32_w]
   rfl
  refine pure_ (i := 4) (N := some 17) (v := ?_) (a' := ?_) #[true, true, true, true, true, false, false, false, false, false, false, false, false, false, false] rfl rfl (by kernel_rfl) (fun _ _ _ h => h) (Or.inl ⟨by rfl, ?_⟩) ?_ ?_
  rotate_left
  ·intro w'
   go_simp
   with_reducible rfl
  rotate_left
  ·simp only [Act.put, sA_, sB_, sC_, i64_w, i32_w]
   rfl
  refine pure_ (i := 5) (N := some 18) (v := ?_) (a' := ?_) #[true, true, true, true, true, true, false, false, false, false, false, false, false, false, false] rfl rfl (by kernel_rfl) (fun _ _ _ h => h) (Or.inl ⟨by rfl, ?_⟩) ?_ ?_
  rotate_left
  ·intro w'
   go_simp
   with_reducible rfl
  rotate_left
  ·simp only [Act.put, sA_, sB_, sC_, i64_w, i32_w]
   rfl
  refine pure_ (i := 8) (N := some 21) (v := ?_) (a' := ?_) #[true, true, true, true, true, true, false, false, true, false, false, false, false, false, false] rfl rfl (by kernel_rfl) (fun _ _ _ h => h) (Or.inl ⟨by rfl, ?_⟩) ?_ ?_
  rotate_left
  ·intro w'
   go_simp
   with_reducible rfl
  rotate_left
  ·simp only [Act.put, sA_, sB_, sC_, i64_w, i32_w]
   rfl
  refine pure_ (i := 9) (N := some 22) (v := ?_) (a' := ?_) #[true, true, true, true, true, true, false, false, true, true, false, false, false, false, false] rfl rfl (by kernel_rfl) (fun _ _ _ h => h) (Or.inl ⟨by rfl, ?_⟩) ?_ ?_
  rotate_left
  ·intro w'
   go_simp
   with_reducible rfl
  rotate_left
  ·simp only [Act.put, sA_, sB_, sC_, i64_w, i32_w]
   rfl
  refine pure_ (i := 10) (N := some 23) (v := ?_) (a' := ?_) #[true, true, true, true, true, true, false, false, true, true, true, false, false, false, false] rfl rfl (by kernel_rfl) (fun _ _ _ h => h) (Or.inl ⟨by rfl, ?_⟩) ?_ ?_
  rotate_left
  ·intro w'
   go_simp
   with_reducible rfl
  rotate_left
  ·simp only [Act.put, sA_, sB_, sC_, i64_w, i32_w]
   rfl
  refine pure_ (i := 11) (N := some 24) (v := ?_) (a' := ?_) #[true, true, true, true, true, true, false, false, true, true, true, true, false, false, false] rfl rfl (by kernel_rfl) (fun _ _ _ h => h) (Or.inl ⟨by rfl, ?_⟩) ?_ ?_
  rotate_left
  ·intro w'
   go_simp
   with_reducible rfl
  rotate_left
  ·simp only [Act.put, sA_, sB_, sC_, i64_w, i32_w]
   rfl
  refine take_ (i := 12) (N := some 25) (v := ?_) (a' := ?_) #[true, true, true, true, true, true, false, false, true, true, true, true, true, false, false] rfl rfl (by kernel_rfl) (fun _ _ _ h => h) (Or.inl ⟨by rfl, ?_⟩) hHeld ?_ ?_
  rotate_left
  ·rintro w' ⟨s0, s1, s2, s3⟩
   go_simp
   with_reducible rfl
  rotate_left
  ·simp only [Act.put, sA_, sB_, sC_, i64_w, i32_w]
   rfl
  refine one_ (i := 6) (N := some 19) #[true, true, true, true, true, true, true, false, true, true, true, true, true, false, false] rfl rfl (by kernel_rfl) (by decide) (fun K hK => ?_)
  refine goes_ Tryd.func11 (by kernel_rfl) rfl #[.slice (some ad) n c0] (by rfl) rfl rfl (by simp only [List.map_toArray, List.map_cons, List.map_nil]; rfl) ?_
  with_reducible refine (HC1.out).mono ?_
  rintro e w3 ⟨rfl, hb⟩
  refine ⟨_, rfl, ?_⟩
  have HR3 := Lib.hid (show Below W0.heap.size W0 w3 from ⟨hb.os, hb.tape, hb.output, hb.size, hb.block⟩)
  clear hb
  refine hK.out _ _ ⟨(HCELL.out w3 HR3.out).1, (HCELL.out w3 HR3.out).2.1, (HCELL.out w3 HR3.out).2.2.1, (HCELL.out w3 HR3.out).2.2.2⟩ (fun hHeld => ?_)
  clear hK K
  refine norm_ (a' := ?_) ?_ ?_
  rotate_left
  ·show Act.put _ (some 19) _ = _
   simp only [Act.put, sA_, sB_, sC_, i64_w, i32_w]
   rfl
  refine one_ (i := 7) (N := some 20) #[true, true, true, true, true, true, true, true, true, true, true, true, true, false, false] rfl rfl (by kernel_rfl) (by decide) (fun K hK => ?_)
  refine goes_ Tryd.func34 (by kernel_rfl) rfl #[.int .u16 sm] (by rfl) rfl rfl (by simp only [List.map_toArray, List.map_cons, List.map_nil]; rfl) ?_
  with_reducible refine (digits_calls sm HSR.out.1 HSR.out.2 _).mono ?_
  rintro e w4 ⟨rfl, hb⟩
  refine ⟨_, rfl, ?_⟩
  have HR4 := Lib.hid (show Below w3.heap.size w3 w4 from ⟨hb.os, hb.tape, hb.output, hb.size, hb.block⟩)
  clear hb
  refine hK.out _ _ ⟨(HCELL.out w4 (HR3.out.trans (HR4.out.mono HR3.out.size))).1, (HCELL.out w4 (HR3.out.trans (HR4.out.mono HR3.out.size))).2.1, (HCELL.out w4 (HR3.out.trans (HR4.out.mono HR3.out.size))).2.2.1, (HCELL.out w4 (HR3.out.trans (HR4.out.mono HR3.out.size))).2.2.2⟩ (fun hHeld => ?_)
  clear hK K
  refine norm_ (a' := ?_) ?_ ?_
  rotate_left
  ·show Act.put _ (some 20) _ = _
   simp only [Act.put, sA_, sB_, sC_, i64_w, i32_w]
   rfl
  refine pure_ (i := 13) (N := some 26) (v := ?_) (a' := ?_) #[true, true, true, true, true, true, true, true, true, true, true, true, true, true, false] rfl rfl (by kernel_rfl) (fun _ _ _ h => h) (Or.inl ⟨by rfl, ?_⟩) ?_ ?_
  rotate_left
  ·intro w'
   go_simp
   with_reducible rfl
  rotate_left
  ·simp only [Act.put, sA_, sB_, sC_, i64_w, i32_w]
   rfl
  refine pure_ (i := 14) (N := some 27) (v := ?_) (a' := ?_) #[true, true, true, true, true, true, true, true, true, true, true, true, true, true, true] rfl rfl (by kernel_rfl) (fun _ _ _ h => h) (Or.inl ⟨by rfl, ?_⟩) ?_ ?_
  rotate_left
  ·intro w'
   go_simp
   with_reducible rfl
  rotate_left
  ·simp only [Act.put, sA_, sB_, sC_, i64_w, i32_w]
   rfl
  refine done_ (by kernel_rfl) ?_
  have HB4 : Hid (Below w.heap.size w w4) := Lib.hid (HB0.out.trans ((HR3.out.trans (HR4.out.mono HR3.out.size)).mono HB0.out.size))
  have HBQ4 : Hid (w4.heap[w.heap.size]? = some (.cells zF 31 (0, 0))) := Lib.hid (((HR3.out.trans (HR4.out.mono HR3.out.size)).block _ (blk_lt HBQ.out)).trans HBQ.out)
  have HC4 : Hid (Kd.C (Kd.int .u8) w4 (some ad) l1.length l1) := Lib.hid (Kd.C_below HC0.out HB4.out)
  clear hHeld HC1 HC0 HCELL hAT hEQ HBQ HR3 HR4
  cases q
  ·have hne : ¬ digs sm = [b0, b1, b2, b3] := fun he => by have := HQE.out.2 he; simp at this
   have h := H.out
   rw [if_neg hne] at h
   simp only [Option.some.injEq, Prod.mk.injEq] at h
   obtain ⟨rfl, rfl, rfl, rfl, rfl, rfl, rfl, rfl⟩ := h
   go_wp2_with (first
    | (refine wpList_store_row rfl _ _ _ rfl w.heap.size #[.int .i64 0, .int .i64 0, .int .i64 0, .int .i64 0, .int .i64 0, .slice none 0 0, .slice none 0 0] rfl rfl 31 zF HBQ4.out (by kernel_rfl) (by kernel_rfl) (by kernel_rfl) ?_))
   refine bodyPost_ret (dec_ret _ _ w.heap.size _ 12 rfl rfl (dec_row HBQ4.out) rfl) rfl ?_
   exact ⟨_, _, rfl, Kd.R_nil _ _ _ _ _, Kd.R_nil _ _ _ _ _, below_setRow HB4.out (Nat.le_refl _) _⟩
  ·have h := H.out
   rw [if_pos (HQE.out.1 rfl)] at h
   clear H HQE
   have H := Lib.hid h
   clear h
   obtain ⟨str, hstr⟩ : ∃ str, strOfNums l1 = str := ⟨_, rfl⟩
   rw [hstr] at H
   have HBF : Hid ((w4.alloc (Obj.cells #[.int .i64 0, .int .i64 0, .int .i64 0, .int .i64 0, .int .i64 0, .slice none 0 0, .slice none 0 0] 31)).heap[w4.heap.size]? = some (.cells zF 31 (0, 0))) := Lib.hid (heap_alloc_new _ _)
   have HB5 : Hid (Below w.heap.size w (w4.alloc (Obj.cells #[.int .i64 0, .int .i64 0, .int .i64 0, .int .i64 0, .int .i64 0, .slice none 0 0, .slice none 0 0] 31))) := Lib.hid (below_alloc HB4.out _)
   have HBQ5 : Hid ((w4.alloc (Obj.cells #[.int .i64 0, .int .i64 0, .int .i64 0, .int .i64 0, .int .i64 0, .slice none 0 0, .slice none 0 0] 31)).heap[w.heap.size]? = some (.cells zF 31 (0, 0))) := Lib.hid (((below_alloc (Below.refl _ _) _).block _ (blk_lt HBQ4.out)).trans HBQ4.out)
   have hCV : (convert 22 9 (.slice (some ad) n c0)).run Tryd.prog (w4.alloc (Obj.cells #[.int .i64 0, .int .i64 0, .int .i64 0, .int .i64 0, .int .i64 0, .slice none 0 0, .slice none 0 0] 31)) = .ok (.string str) (w4.alloc (Obj.cells #[.int .i64 0, .int .i64 0, .int .i64 0, .int .i64 0, .int .i64 0, .slice none 0 0, .slice none 0 0] 31)) := by
    rw [← hstr, ← hl1]
    exact Kd.C_string Tryd.underlying22 Tryd.underlying5 Tryd.underlying9 (Kd.C_below HC4.out (below_alloc (Below.refl _ _) _))
   obtain ⟨W5, hW5⟩ : ∃ W5, w4.alloc (Obj.cells #[.int .i64 0, .int .i64 0, .int .i64 0, .int .i64 0, .int .i64 0, .slice none 0 0, .slice none 0 0] 31) = W5 := ⟨_, rfl⟩
   have HGF : Hid (w.heap.size ≤ w4.heap.size) := Lib.hid HB4.out.size
   have HGN : Hid (w4.heap.size ≠ w.heap.size) := Lib.hid (by have := blk_lt HBQ4.out; omega)
   rw [hW5] at HBF HB5 HBQ5 hCV
   go_wp2_with fail
   generalize w4.heap.size = gf at HBF HGF HGN ⊢
   clear hW5 hCV HB4 HBQ4 HC4
   have h := H.out
   unfold decBody at h
   clear H
   refine (encode_NewReader.calls str str 0 0 0 w W5 HB5.out rfl).mono ?_
   rintro e w6 ⟨gr, rfl, hI6, hB6, hb6⟩
   have HD6 : Hid (DS w (fun _ => True) gf gr (str, 0, 0, 0) 0 0 0 0 0 (.slice none 0 0) [] (.slice none 0 0) [] w6) := Lib.hid ⟨hI6, hB6, (hb6.block _ (blk_lt HBF.out)).trans HBF.out, (hb6.block _ (blk_lt HBQ5.out)).trans HBQ5.out, by have := HGF.out; have := HGN.out; omega, Kd.R_nil _ _ _ _ _, Kd.R_nil _ _ _ _ _⟩
   clear hI6 hB6 hb6 HBF HBQ5 HB5
   replace h := Option.bind_eq_some_iff.mp h
   obtain ⟨t0, ht, h⟩ := h
   have T := Lib.hid ht
   clear ht
   have H := Lib.hid h
   clear h
   go_wp2_with fail
   refine (HD6.out.open_ T.out).mono ?_
   rintro e w7 ⟨rfl, hd, hk⟩
   have HD7 := Lib.hid hd
   clear hd hk HD6 T
   have h := H.out
   clear H
   have ix0 : ∀ W, (Instr.index 68 (.agg #[.pointer (some ⟨gf, 0, none⟩), .pointer (some ⟨gf, 1, none⟩), .pointer (some ⟨gf, 2, none⟩), .pointer (some ⟨gf, 3, none⟩), .pointer (some ⟨gf, 4, none⟩)]) (.int .i64 0)).run Tryd.prog W = .ok (.pointer (some ⟨gf, 0, none⟩)) W := fun _ => by kernel_rfl
   have ix1 : ∀ W, (Instr.index 68 (.agg #[.pointer (some ⟨gf, 0, none⟩), .pointer (some ⟨gf, 1, none⟩), .pointer (some ⟨gf, 2, none⟩), .pointer (some ⟨gf, 3, none⟩), .pointer (some ⟨gf, 4, none⟩)]) (.int .i64 1)).run Tryd.prog W = .ok (.pointer (some ⟨gf, 1, none⟩)) W := fun _ => by kernel_rfl
   have ix2 : ∀ W, (Instr.index 68 (.agg #[.pointer (some ⟨gf, 0, none⟩), .pointer (some ⟨gf, 1, none⟩), .pointer (some ⟨gf, 2, none⟩), .pointer (some ⟨gf, 3, none⟩), .pointer (some ⟨gf, 4, none⟩)]) (.int .i64 2)).run Tryd.prog W = .ok (.pointer (some ⟨gf, 2, none⟩)) W := fun _ => by kernel_rfl
   have ix3 : ∀ W, (Instr.index 68 (.agg #[.pointer (some ⟨gf, 0, none⟩), .pointer (some ⟨gf, 1, none⟩), .pointer (some ⟨gf, 2, none⟩), .pointer (some ⟨gf, 3, none⟩), .pointer (some ⟨gf, 4, none⟩)]) (.int .i64 3)).run Tryd.prog W = .ok (.pointer (some ⟨gf, 3, none⟩)) W := fun _ => by kernel_rfl
   have ix4 : ∀ W, (Instr.index 68 (.agg #[.pointer (some ⟨gf, 0, none⟩), .pointer (some ⟨gf, 1, none⟩), .pointer (some ⟨gf, 2, none⟩), .pointer (some ⟨gf, 3, none⟩), .pointer (some ⟨gf, 4, none⟩)]) (.int .i64 4)).run Tryd.prog W = .ok (.pointer (some ⟨gf, 4, none⟩)) W := fun _ => by kernel_rfl
   go_wp2_with fail
   refine wp_loop_rounds 6 ?_
   rw [rounds_succ]
   replace h := Option.bind_eq_some_iff.mp h
   obtain ⟨⟨v0, s0⟩, ht, h⟩ := h
   have T := Lib.hid ht
   clear ht
   have H := Lib.hid h
   clear h
   go_wp2_with fail
   refine (HD7.out.int_ HL.out T.out).mono ?_
   rintro e w8 ⟨rfl, hd, hk⟩
   have HD8 := Lib.hid hd
   clear hd hk HD7 T
   have h := H.out
   clear H
   have x0 : w8.cell? ⟨gf, 0, none⟩ = some (.int .i64 0) := (blk_cell HD8.out.hF 0).trans rfl
   have f0 : w8.frozen? ⟨gf, 0, none⟩ = false := blk_frozen HD8.out.hF 0
   go_wp2_with fail
   rw [rounds_succ]
   clear x0 f0
   have HD9 := Lib.hid (HD8.out.set0 v0)
   clear HD8
   generalize w8.setCell ⟨gf, 0, none⟩ (.int .i64 v0) = w9 at HD9 ⊢
   replace h := Option.bind_eq_some_iff.mp h
   obtain ⟨⟨v1, s1⟩, ht, h⟩ := h
   have T := Lib.hid ht
   clear ht
   have H := Lib.hid h
   clear h
   go_wp2_with fail
   refine (HD9.out.int_ HL.out T.out).mono ?_
   rintro e w10 ⟨rfl, hd, hk⟩
   have HD10 := Lib.hid hd
   clear hd hk HD9 T
   have h := H.out
   clear H
   have x1 : w10.cell? ⟨gf, 1, none⟩ = some (.int .i64 0) := (blk_cell HD10.out.hF 1).trans rfl
   have f1 : w10.frozen? ⟨gf, 1, none⟩ = false := blk_frozen HD10.out.hF 1
   go_wp2_with fail
   rw [rounds_succ]
   clear x1 f1
   have HD11 := Lib.hid (HD10.out.set1 v1)
   clear HD10
   generalize w10.setCell ⟨gf, 1, none⟩ (.int .i64 v1) = w11 at HD11 ⊢
   replace h := Option.bind_eq_some_iff.mp h
   obtain ⟨⟨v2, s2⟩, ht, h⟩ := h
   have T := Lib.hid ht
   clear ht
   have H := Lib.hid h
   clear h
   go_wp2_with fail
   refine (HD11.out.int_ HL.out T.out).mono ?_
   rintro e w12 ⟨rfl, hd, hk⟩
   have HD12 := Lib.hid hd
   clear hd hk HD11 T
   have h := H.out
   clear H
   have x2 : w12.cell? ⟨gf, 2, none⟩ = some (.int .i64 0) := (blk_cell HD12.out.hF 2).trans rfl
   have f2 : w12.frozen? ⟨gf, 2, none⟩ = false := blk_frozen HD12.out.hF 2
   go_wp2_with fail
   rw [rounds_succ]
   clear x2 f2
   have HD13 := Lib.hid (HD12.out.set2 v2)
   clear HD12
   generalize w12.setCell ⟨gf, 2, none⟩ (.int .i64 v2) = w13 at HD13 ⊢
   replace h := Option.bind_eq_some_iff.mp h
   obtain ⟨⟨v3, s3⟩, ht, h⟩ := h
   have T := Lib.hid ht
   clear ht
   have H := Lib.hid h
   clear h
   go_wp2_with fail
   refine (HD13.out.int_ HL.out T.out).mono ?_
   rintro e w14 ⟨rfl, hd, hk⟩
   have HD14 := Lib.hid hd
   clear hd hk HD13 T
   have h := H.out
   clear H
   have x3 : w14.cell? ⟨gf, 3, none⟩ = some (.int .i64 0) := (blk_cell HD14.out.hF 3).trans rfl
   have f3 : w14.frozen? ⟨gf, 3, none⟩ = false := blk_frozen HD14.out.hF 3
   go_wp2_with fail
   rw [rounds_succ]
   clear x3 f3
   have HD15 := Lib.hid (HD14.out.set3 v3)
   clear HD14
   generalize w14.setCell ⟨gf, 3, none⟩ (.int .i64 v3) = w15 at HD15 ⊢
   replace h := Option.bind_eq_some_iff.mp h
   obtain ⟨⟨v4, s4⟩, ht, h⟩ := h
   have T := Lib.hid ht
   clear ht
   have H := Lib.hid h
   clear h
   go_wp2_with fail
   refine (HD15.out.int_ HL.out T.out).mono ?_
   rintro e w16 ⟨rfl, hd, hk⟩
   have HD16 := Lib.hid hd
   clear hd hk HD15 T
   have h := H.out
   clear H
   have x4 : w16.cell? ⟨gf, 4, none⟩ = some (.int .i64 0) := (blk_cell HD16.out.hF 4).trans rfl
   have f4 : w16.frozen? ⟨gf, 4, none⟩ = false := blk_frozen HD16.out.hF 4
   go_wp2_with fail
   rw [rounds_succ]
   clear x4 f4
   have HD17 := Lib.hid (HD16.out.set4 v4)
   clear HD16
   generalize w16.setCell ⟨gf, 4, none⟩ (.int .i64 v4) = w17 at HD17 ⊢
   replace h := Option.bind_eq_some_iff.mp h
   obtain ⟨⟨l5, s5⟩, ht, h⟩ := h
   have T := Lib.hid ht
   clear ht
   have H := Lib.hid h
   clear h
   go_wp2_with fail
   refine (HD17.out.lines HL.out T.out).mono ?_
   rintro e w18 ⟨vL, rfl, hr, hd, hk⟩
   have HD18 := Lib.hid hd
   have HRL0 := hr
   obtain ⟨AL, cL, rfl, -, -⟩ := Kd.R_reads hr
   have HRL := Lib.hid HRL0
   clear hr HRL0
   clear hd hk HD17 T
   have h := H.out
   clear H
   have x5 : w18.cell? ⟨gf, 5, none⟩ = some (.slice none 0 0) := (blk_cell HD18.out.hF 5).trans rfl
   have f5 : w18.frozen? ⟨gf, 5, none⟩ = false := blk_frozen HD18.out.hF 5
   go_wp2_with fail
   clear x5 f5
   have HD19 := Lib.hid (HD18.out.setL HRL.out)
   clear HD18 HRL
   generalize w18.setCell ⟨gf, 5, none⟩ (.slice AL l5.length cL) = w19 at HD19 ⊢
   replace h := Option.bind_eq_some_iff.mp h
   obtain ⟨s6, ht, h⟩ := h
   have T := Lib.hid ht
   clear ht
   have H := Lib.hid h
   clear h
   go_wp2_with fail
   refine (HD19.out.open_ T.out).mono ?_
   rintro e w20 ⟨rfl, hd, hk⟩
   have HD20 := Lib.hid hd
   clear hd hk HD19 T
   have h := H.out
   clear H
   replace h := Option.bind_eq_some_iff.mp h
   obtain ⟨⟨es, s7⟩, ht, h⟩ := h
   have T := Lib.hid ht
   clear ht
   have H := Lib.hid h
   clear h
   go_wp2_with fail
   try simp only [Act.put, sA_, sB_, sC_, i64_w, i32_w]
   go_loopg [9] K (fun kq v9 w' => ∃ (es1 : List S52) (t1 : St) (ve : Value), Hid (edLoop K kq es1 t1 = some (es, s7)) ∧ Hid (kq ≤ K) ∧ Hid (DS w (fun _ => True) gf gr t1 v0 v1 v2 v3 v4 (.slice AL l5.length cL) l5 ve es1 w'))
   case atStart => exact ⟨[], s6, _, Lib.hid T.out, Lib.hid (Nat.le_refl _), Lib.hid HD20.out⟩
   case round =>
    clear T
    obtain ⟨es1, t1, ve, HA, HK1, HD⟩ := hrel
    cases gk with
    | zero => exact absurd HA.out (by simp [edLoop])
    | succ k1 =>
     have h2 := HA.out
     clear HA
     simp only [edLoop] at h2
     replace h2 := Option.bind_eq_some_iff.mp h2
     obtain ⟨⟨b, t2⟩, hm, h2⟩ := h2
     have T2 := Lib.hid hm
     clear hm
     by_cases hb : b = true
     ·subst hb
      simp only [if_true] at h2
      replace h2 := Option.bind_eq_some_iff.mp h2
      obtain ⟨⟨er, t3⟩, hm, h2⟩ := h2
      have T3 := Lib.hid hm
      clear hm
      by_cases her : er = 0
      ·subst her
       simp only [if_true] at h2
       replace h2 := Option.bind_eq_some_iff.mp h2
       obtain ⟨⟨x, t4⟩, hm, h2⟩ := h2
       unfold rdEdit at hm
       replace hm := Option.bind_eq_some_iff.mp hm
       obtain ⟨u0, hu, hm⟩ := hm
       have U0 := Lib.hid hu
       clear hu
       replace hm := Option.bind_eq_some_iff.mp hm
       obtain ⟨⟨x0, u1⟩, hu, hm⟩ := hm
       have U1 := Lib.hid hu
       clear hu
       replace hm := Option.bind_eq_some_iff.mp hm
       obtain ⟨⟨x1, u2⟩, hu, hm⟩ := hm
       have U2 := Lib.hid hu
       clear hu
       replace hm := Option.bind_eq_some_iff.mp hm
       obtain ⟨⟨lx, u3⟩, hu, hm⟩ := hm
       have U3 := Lib.hid hu
       clear hu
       replace hm := Option.bind_eq_some_iff.mp hm
       obtain ⟨u4, hu, hm⟩ := hm
       have U4 := Lib.hid hu
       clear hu
       simp only [Option.some.injEq, Prod.mk.injEq] at hm
       obtain ⟨rfl, rfl⟩ := hm
       by_cases hlt : es1.length < 1000000000000
       ·rw [if_pos hlt] at h2
        have HLT := Lib.hid hlt
        have H2 := Lib.hid h2
        clear h2 hlt
        go_wp2_with fail
        refine (HD.out.more T2.out).mono ?_
        rintro e wm1 ⟨rfl, hd, hk⟩
        have HD2 := Lib.hid hd
        clear hd hk HD
        go_wp2_with fail
        refine (HD2.out.err T3.out).mono ?_
        rintro e wm2 ⟨rfl, hd, hk⟩
        have HD3 := Lib.hid hd
        clear hd hk HD2
        go_wp2_with fail
        have HD4 := Lib.hid (HD3.out.allocX (Obj.cells #[.int .i64 0, .int .i64 0, .slice none 0 0] 52))
        have HX4 : Hid (DX w wm2.heap.size 0 0 (.slice none 0 0) [] (wm2.alloc (Obj.cells #[.int .i64 0, .int .i64 0, .slice none 0 0] 52))) := Lib.hid ⟨heap_alloc_new _ _, Kd.R_nil _ _ _ _ _, HD3.out.hB.size⟩
        generalize wm2.alloc (Obj.cells #[.int .i64 0, .int .i64 0, .slice none 0 0] 52) = wm4 at HD4 HX4 ⊢
        clear HD3
        generalize wm2.heap.size = gx at HD4 HX4 ⊢
        refine (HD4.out.open_ U0.out).mono ?_
        rintro e wm5 ⟨rfl, hd, hk⟩
        have HD5 := Lib.hid hd
        have HX5 := Lib.hid (HX4.out.keep HD4.out hk)
        clear hd hk HD4 HX4
        go_wp2_with fail
        refine (HD5.out.int_ HL.out U1.out).mono ?_
        rintro e wm6 ⟨rfl, hd, hk⟩
        have HD6 := Lib.hid hd
        have HX6 := Lib.hid (HX5.out.keep HD5.out hk)
        clear hd hk HD5 HX5
        have p0 : wm6.cell? ⟨gx, 0, none⟩ = some (.int .i64 0) := (blk_cell HX6.out.hX 0).trans rfl
        have q0 : wm6.frozen? ⟨gx, 0, none⟩ = false := blk_frozen HX6.out.hX 0
        go_wp2_with fail
        clear p0 q0
        have HD7 := Lib.hid (HD6.out.setX HX6.out 0 (.int .i64 x0))
        have HX7 := Lib.hid (HX6.out.set0 x0)
        clear HD6 HX6
        generalize wm6.setCell ⟨gx, 0, none⟩ (.int .i64 x0) = wm7 at HD7 HX7 ⊢
        refine (HD7.out.int_ HL.out U2.out).mono ?_
        rintro e wm8 ⟨rfl, hd, hk⟩
        have HD8 := Lib.hid hd
        have HX8 := Lib.hid (HX7.out.keep HD7.out hk)
        clear hd hk HD7 HX7
        have p0 : wm8.cell? ⟨gx, 1, none⟩ = some (.int .i64 0) := (blk_cell HX8.out.hX 1).trans rfl
        have q0 : wm8.frozen? ⟨gx, 1, none⟩ = false := blk_frozen HX8.out.hX 1
        go_wp2_with fail
        clear p0 q0
        have HD9 := Lib.hid (HD8.out.setX HX8.out 1 (.int .i64 x1))
        have HX9 := Lib.hid (HX8.out.set1 x1)
        clear HD8 HX8
        generalize wm8.setCell ⟨gx, 1, none⟩ (.int .i64 x1) = wm9 at HD9 HX9 ⊢
        refine (HD9.out.lines HL.out U3.out).mono ?_
        rintro e wm10 ⟨vX, rfl, hr, hd, hk⟩
        have HD10 := Lib.hid hd
        have HX10 := Lib.hid (HX9.out.keep HD9.out hk)
        have HRX0 := hr
        obtain ⟨AX, cX, rfl, -, -⟩ := Kd.R_reads hr
        have HRX := Lib.hid HRX0
        clear hd hk HD9 HX9 hr HRX0
        have p0 : wm10.cell? ⟨gx, 2, none⟩ = some (.slice none 0 0) := (blk_cell HX10.out.hX 2).trans rfl
        have q0 : wm10.frozen? ⟨gx, 2, none⟩ = false := blk_frozen HX10.out.hX 2
        go_wp2_with fail
        clear p0 q0
        have HD11 := Lib.hid (HD10.out.setX HX10.out 2 (.slice AX lx.length cX))
        have HX11 := Lib.hid (HX10.out.set2 HRX.out)
        clear HD10 HX10 HRX
        generalize wm10.setCell ⟨gx, 2, none⟩ (.slice AX lx.length cX) = wm11 at HD11 HX11 ⊢
        refine (HD11.out.close U4.out).mono ?_
        rintro e wm12 ⟨rfl, hd, hk⟩
        have HD12 := Lib.hid hd
        have HX12 := Lib.hid (HX11.out.keep HD11.out hk)
        clear hd hk HD11 HX11
        have p0 : wm12.cell? ⟨gx, 0, none⟩ = some (.int .i64 x0) := (blk_cell HX12.out.hX 0).trans rfl
        have p1 : wm12.cell? ⟨gx, 1, none⟩ = some (.int .i64 x1) := (blk_cell HX12.out.hX 1).trans rfl
        have p2 : wm12.cell? ⟨gx, 2, none⟩ = some (.slice AX lx.length cX) := (blk_cell HX12.out.hX 2).trans rfl
        have p6 : wm12.cell? ⟨gf, 6, none⟩ = some ve := (blk_cell HD12.out.hF 6).trans rfl
        have HEL := Lib.hid (HD12.out.elem HX12.out)
        have HSZ : Hid (∀ k, wm12.heap.size ≤ k → k ≠ gx) := Lib.hid (fun k hk => by have := blk_lt HX12.out.hX; omega)
        go_wp2_with (first
         | ((with_reducible refine gate_builtin (b := .append) (xs := #[.tmp 76, .tmp 78]) rfl ?_); at_builtin; refine Kd.R_append k52 (w0 := w) w.heap.size rfl (.tmp 76) (.tmp 78) 29 52 (.agg #[(.int .i64 0), (.int .i64 0), (.slice none 0 0)]) 40 rfl Tryd.underlying29 info52 rfl (by decide) (by omega) ve es1 ⟨x0, x1, lx⟩ [.int .i64 x0, .int .i64 x1, .slice AX lx.length cX] (fun k => k ≠ gx) HEL.out.choose rfl rfl HEL.out.choose_spec.1 HEL.out.choose_spec.2 HSZ.out HD12.out.hE HD12.out.hB HD12.out.hB.size (by have := HLT.out; omega) ?_; intro v79 w79 ho hb hg hat; have HRV := Lib.hid ho; obtain ⟨AV, cV, rfl, -, -⟩ := Kd.R_reads ho; have HGV := Lib.hid hg; have HBV := Lib.hid hb; clear ho hb hg hat; have p7 : w79.cell? ⟨gf, 6, none⟩ = some ve := (blk_cell (HD12.out.grownF HGV.out) 6).trans rfl; have q7 : w79.frozen? ⟨gf, 6, none⟩ = false := blk_frozen (HD12.out.grownF HGV.out) 6))
        go_roundg k1
        case measure => have := HK1.out; omega
        case rel => exact ⟨_, _, _, Lib.hid H2.out, Lib.hid (by have := HK1.out; omega), Lib.hid (HD12.out.appended HGV.out HBV.out (by have := HRV.out; rw [show (es1 ++ [(⟨x0, x1, lx⟩ : S52)]).length = es1.length + 1 from by simp] at this; exact this))⟩
       ·rw [if_neg hlt] at h2
        exact absurd h2 (by simp)
      ·rw [if_neg her] at h2
       have z1 : (er == 0) = false := beq_eq_false_iff_ne.mpr her
       have z2 : (er != 0) = true := bne_iff_ne.mpr her
       simp only [Option.some.injEq, Prod.mk.injEq] at h2
       obtain ⟨rfl, rfl⟩ := h2
       go_wp2_with fail
       refine (HD.out.more T2.out).mono ?_
       rintro e wm1 ⟨rfl, hd, hk⟩
       have HD2 := Lib.hid hd
       clear hd hk
       go_wp2_with fail
       refine (HD2.out.err T3.out).mono ?_
       rintro e wm2 ⟨rfl, hd, hk⟩
       have HD3 := Lib.hid hd
       clear hd hk
       have h := H.out
       clear H
       replace h := Option.bind_eq_some_iff.mp h
       obtain ⟨t8, ht, h⟩ := h
       have T := Lib.hid ht
       clear ht
       have H := Lib.hid h
       clear h
       go_wp2_with fail
       refine (HD3.out.close T.out).mono ?_
       rintro e wt8 ⟨rfl, hd, hk⟩
       have Dt8 := Lib.hid hd
       clear hd hk  T
       have h := H.out
       clear H
       replace h := Option.bind_eq_some_iff.mp h
       obtain ⟨t9, ht, h⟩ := h
       have T := Lib.hid ht
       clear ht
       have H := Lib.hid h
       clear h
       go_wp2_with fail
       refine (Dt8.out.close T.out).mono ?_
       rintro e wt9 ⟨rfl, hd, hk⟩
       have Dt9 := Lib.hid hd
       clear hd hk Dt8 T
       have h := H.out
       clear H
       replace h := Option.bind_eq_some_iff.mp h
       obtain ⟨⟨ee, t10⟩, ht, h⟩ := h
       have T := Lib.hid ht
       clear ht
       have H := Lib.hid h
       clear h
       obtain ⟨c0b, hc0b⟩ : ∃ c0b : Bool, (ee == 0) = c0b := ⟨_, rfl⟩
       have hc1b : (ee != 0) = !c0b := by rw [bne, hc0b]
       go_wp2_with fail
       refine (Dt9.out.end_ T.out).mono ?_
       rintro e wt10 ⟨rfl, hd, hk⟩
       have Dt10 := Lib.hid hd
       clear hd hk Dt9 T
       have h := H.out
       clear H
       have HRE := Dt10.out.hE
       obtain ⟨AE, cE, hve, hcE, hCE⟩ := Kd.R_reads HRE
       subst hve
       have HCL := Lib.hid (Kd.R_reads' Dt10.out.hL).2
       have HCE := Lib.hid (And.intro hcE hCE)
       clear HRE hcE hCE
       have y0 : wt10.cell? ⟨gf, 0, none⟩ = some (.int .i64 v0) := (blk_cell Dt10.out.hF 0).trans rfl
       have y1 : wt10.cell? ⟨gf, 1, none⟩ = some (.int .i64 v1) := (blk_cell Dt10.out.hF 1).trans rfl
       have y2 : wt10.cell? ⟨gf, 2, none⟩ = some (.int .i64 v2) := (blk_cell Dt10.out.hF 2).trans rfl
       have y3 : wt10.cell? ⟨gf, 3, none⟩ = some (.int .i64 v3) := (blk_cell Dt10.out.hF 3).trans rfl
       have y4 : wt10.cell? ⟨gf, 4, none⟩ = some (.int .i64 v4) := (blk_cell Dt10.out.hF 4).trans rfl
       have y5 : wt10.cell? ⟨gf, 5, none⟩ = some (.slice AL l5.length cL) := (blk_cell Dt10.out.hF 5).trans rfl
       have y6 : wt10.cell? ⟨gf, 6, none⟩ = some (.slice AE es1.length cE) := (blk_cell Dt10.out.hF 6).trans rfl
       by_cases hee : ee = 0
       ·subst hee
        simp only [if_true] at h
        obtain rfl : true = c0b := hc0b
        try clear hc0b
        replace h := Option.bind_eq_some_iff.mp h
        obtain ⟨ck, hck, h⟩ := h
        have HCK := Lib.hid hck
        clear hck
        have H := Lib.hid h
        clear h
        go_wp2_with fail
        refine (frame_Check.calls K v0 v1 v2 v3 v4 AL cL l5 AE cE es1 ck wt10 HCL.out.2 HCL.out.1 HCE.out.2 HCE.out.1 HCK.out).mono ?_
        rintro e wc ⟨rfl, hb⟩
        have BC : Hid (Below w.heap.size w wc) := Lib.hid (Dt10.out.hB.trans (hb.mono Dt10.out.hB.size))
        have FC := Lib.hid ((hb.block _ (blk_lt Dt10.out.hF)).trans Dt10.out.hF)
        have QC := Lib.hid ((hb.block _ (blk_lt Dt10.out.hQ)).trans Dt10.out.hQ)
        have LC := Lib.hid (Kd.R_below Dt10.out.hL hb)
        have EC := Lib.hid (Kd.R_below Dt10.out.hE hb)
        clear hb
        clear y0 y1 y2 y3 y4 y5 y6
        have h := H.out
        clear H
        by_cases hck : ck = 0
        ·subst hck
         simp only [if_true, Option.some.injEq, Prod.mk.injEq] at h
         obtain ⟨rfl, rfl, rfl, rfl, rfl, rfl, rfl, rfl⟩ := h
         go_wp2_with (first
          | (refine wpList_load_row rfl _ _ rfl gf rfl 31 _ _ _ FC.out Tryd.underlying31 rfl (by kernel_rfl) ?_)
          | (refine wpList_store_row rfl _ _ _ rfl w.heap.size #[.int .i64 v0, .int .i64 v1, .int .i64 v2, .int .i64 v3, .int .i64 v4, .slice AL l5.length cL, .slice AE es1.length cE] rfl rfl 31 zF QC.out (by kernel_rfl) (by kernel_rfl) (by kernel_rfl) ?_))
         refine bodyPost_ret (dec_ret _ _ w.heap.size _ 0 rfl rfl (dec_row QC.out) rfl) rfl ?_
         exact ⟨_, _, rfl, dec_kept LC.out QC.out (by decide), dec_kept EC.out QC.out (by decide), below_setRow BC.out (Nat.le_refl _) _⟩
        ·rw [if_neg hck] at h
         have z1 : (ck == 0) = false := beq_eq_false_iff_ne.mpr hck
         have z2 : (ck != 0) = true := bne_iff_ne.mpr hck
         simp only [Option.some.injEq, Prod.mk.injEq] at h
         obtain ⟨rfl, rfl, rfl, rfl, rfl, rfl, rfl, rfl⟩ := h
         go_wp2_with (first
          | (refine wpList_store_row rfl _ _ _ rfl w.heap.size #[.int .i64 0, .int .i64 0, .int .i64 0, .int .i64 0, .int .i64 0, .slice none 0 0, .slice none 0 0] rfl rfl 31 zF QC.out (by kernel_rfl) (by kernel_rfl) (by kernel_rfl) ?_))
         refine bodyPost_ret (dec_ret _ _ w.heap.size _ 2 rfl rfl (dec_row QC.out) rfl) rfl ?_
         exact ⟨_, _, rfl, Kd.R_nil _ _ _ _ _, Kd.R_nil _ _ _ _ _, below_setRow BC.out (Nat.le_refl _) _⟩
       ·rw [if_neg hee] at h
        have z0 : false = c0b := by rw [← hc0b]; exact (beq_eq_false_iff_ne.mpr hee).symm
        subst z0
        try clear hc0b
        simp only [Option.some.injEq, Prod.mk.injEq] at h
        obtain ⟨rfl, rfl, rfl, rfl, rfl, rfl, rfl, rfl⟩ := h
        go_wp2_with (first
         | (refine wpList_store_row rfl _ _ _ rfl w.heap.size #[.int .i64 0, .int .i64 0, .int .i64 0, .int .i64 0, .int .i64 0, .slice none 0 0, .slice none 0 0] rfl rfl 31 zF Dt10.out.hQ (by kernel_rfl) (by kernel_rfl) (by kernel_rfl) ?_))
        refine bodyPost_ret (dec_ret _ _ w.heap.size _ 2 rfl rfl (dec_row Dt10.out.hQ) rfl) rfl ?_
        exact ⟨_, _, rfl, Kd.R_nil _ _ _ _ _, Kd.R_nil _ _ _ _ _, below_setRow Dt10.out.hB (Nat.le_refl _) _⟩
     ·obtain rfl : b = false := by simpa using hb
      simp only [Bool.false_eq_true, if_false, Option.some.injEq, Prod.mk.injEq] at h2
      obtain ⟨rfl, rfl⟩ := h2
      go_wp2_with fail
      refine (HD.out.more T2.out).mono ?_
      rintro e wm1 ⟨rfl, hd, hk⟩
      have HD3 := Lib.hid hd
      clear hd hk
      have h := H.out
      clear H
      replace h := Option.bind_eq_some_iff.mp h
      obtain ⟨t8, ht, h⟩ := h
      have T := Lib.hid ht
      clear ht
      have H := Lib.hid h
      clear h
      go_wp2_with fail
      refine (HD3.out.close T.out).mono ?_
      rintro e wt8 ⟨rfl, hd, hk⟩
      have Dt8 := Lib.hid hd
      clear hd hk  T
      have h := H.out
      clear H
      replace h := Option.bind_eq_some_iff.mp h
      obtain ⟨t9, ht, h⟩ := h
      have T := Lib.hid ht
      clear ht
      have H := Lib.hid h
      clear h
      go_wp2_with fail
      refine (Dt8.out.close T.out).mono ?_
      rintro e wt9 ⟨rfl, hd, hk⟩
      have Dt9 := Lib.hid hd
      clear hd hk Dt8 T
      have h := H.out
      clear H
      replace h := Option.bind_eq_some_iff.mp h
      obtain ⟨⟨ee, t10⟩, ht, h⟩ := h
      have T := Lib.hid ht
      clear ht
      have H := Lib.hid h
      clear h
      obtain ⟨c0b, hc0b⟩ : ∃ c0b : Bool, (ee == 0) = c0b := ⟨_, rfl⟩
      have hc1b : (ee != 0) = !c0b := by rw [bne, hc0b]
      go_wp2_with fail
      refine (Dt9.out.end_ T.out).mono ?_
      rintro e wt10 ⟨rfl, hd, hk⟩
      have Dt10 := Lib.hid hd
      clear hd hk Dt9 T
      have h := H.out
      clear H
      have HRE := Dt10.out.hE
      obtain ⟨AE, cE, hve, hcE, hCE⟩ := Kd.R_reads HRE
      subst hve
      have HCL := Lib.hid (Kd.R_reads' Dt10.out.hL).2
      have HCE := Lib.hid (And.intro hcE hCE)
      clear HRE hcE hCE
      have y0 : wt10.cell? ⟨gf, 0, none⟩ = some (.int .i64 v0) := (blk_cell Dt10.out.hF 0).trans rfl
      have y1 : wt10.cell? ⟨gf, 1, none⟩ = some (.int .i64 v1) := (blk_cell Dt10.out.hF 1).trans rfl
      have y2 : wt10.cell? ⟨gf, 2, none⟩ = some (.int .i64 v2) := (blk_cell Dt10.out.hF 2).trans rfl
      have y3 : wt10.cell? ⟨gf, 3, none⟩ = some (.int .i64 v3) := (blk_cell Dt10.out.hF 3).trans rfl
      have y4 : wt10.cell? ⟨gf, 4, none⟩ = some (.int .i64 v4) := (blk_cell Dt10.out.hF 4).trans rfl
      have y5 : wt10.cell? ⟨gf, 5, none⟩ = some (.slice AL l5.length cL) := (blk_cell Dt10.out.hF 5).trans rfl
      have y6 : wt10.cell? ⟨gf, 6, none⟩ = some (.slice AE es1.length cE) := (blk_cell Dt10.out.hF 6).trans rfl
      by_cases hee : ee = 0
      ·subst hee
       simp only [if_true] at h
       obtain rfl : true = c0b := hc0b
       try clear hc0b
       replace h := Option.bind_eq_some_iff.mp h
       obtain ⟨ck, hck, h⟩ := h
       have HCK := Lib.hid hck
       clear hck
       have H := Lib.hid h
       clear h
       go_wp2_with fail
       refine (frame_Check.calls K v0 v1 v2 v3 v4 AL cL l5 AE cE es1 ck wt10 HCL.out.2 HCL.out.1 HCE.out.2 HCE.out.1 HCK.out).mono ?_
       rintro e wc ⟨rfl, hb⟩
       have BC : Hid (Below w.heap.size w wc) := Lib.hid (Dt10.out.hB.trans (hb.mono Dt10.out.hB.size))
       have FC := Lib.hid ((hb.block _ (blk_lt Dt10.out.hF)).trans Dt10.out.hF)
       have QC := Lib.hid ((hb.block _ (blk_lt Dt10.out.hQ)).trans Dt10.out.hQ)
       have LC := Lib.hid (Kd.R_below Dt10.out.hL hb)
       have EC := Lib.hid (Kd.R_below Dt10.out.hE hb)
       clear hb
       clear y0 y1 y2 y3 y4 y5 y6
       have h := H.out
       clear H
       by_cases hck : ck = 0
       ·subst hck
        simp only [if_true, Option.some.injEq, Prod.mk.injEq] at h
        obtain ⟨rfl, rfl, rfl, rfl, rfl, rfl, rfl, rfl⟩ := h
        go_wp2_with (first
         | (refine wpList_load_row rfl _ _ rfl gf rfl 31 _ _ _ FC.out Tryd.underlying31 rfl (by kernel_rfl) ?_)
         | (refine wpList_store_row rfl _ _ _ rfl w.heap.size #[.int .i64 v0, .int .i64 v1, .int .i64 v2, .int .i64 v3, .int .i64 v4, .slice AL l5.length cL, .slice AE es1.length cE] rfl rfl 31 zF QC.out (by kernel_rfl) (by kernel_rfl) (by kernel_rfl) ?_))
        refine bodyPost_ret (dec_ret _ _ w.heap.size _ 0 rfl rfl (dec_row QC.out) rfl) rfl ?_
        exact ⟨_, _, rfl, dec_kept LC.out QC.out (by decide), dec_kept EC.out QC.out (by decide), below_setRow BC.out (Nat.le_refl _) _⟩
       ·rw [if_neg hck] at h
        have z1 : (ck == 0) = false := beq_eq_false_iff_ne.mpr hck
        have z2 : (ck != 0) = true := bne_iff_ne.mpr hck
        simp only [Option.some.injEq, Prod.mk.injEq] at h
        obtain ⟨rfl, rfl, rfl, rfl, rfl, rfl, rfl, rfl⟩ := h
        go_wp2_with (first
         | (refine wpList_store_row rfl _ _ _ rfl w.heap.size #[.int .i64 0, .int .i64 0, .int .i64 0, .int .i64 0, .int .i64 0, .slice none 0 0, .slice none 0 0] rfl rfl 31 zF QC.out (by kernel_rfl) (by kernel_rfl) (by kernel_rfl) ?_))
        refine bodyPost_ret (dec_ret _ _ w.heap.size _ 2 rfl rfl (dec_row QC.out) rfl) rfl ?_
        exact ⟨_, _, rfl, Kd.R_nil _ _ _ _ _, Kd.R_nil _ _ _ _ _, below_setRow BC.out (Nat.le_refl _) _⟩
      ·rw [if_neg hee] at h
       have z0 : false = c0b := by rw [← hc0b]; exact (beq_eq_false_iff_ne.mpr hee).symm
       subst z0
       try clear hc0b
       simp only [Option.some.injEq, Prod.mk.injEq] at h
       obtain ⟨rfl, rfl, rfl, rfl, rfl, rfl, rfl, rfl⟩ := h
       go_wp2_with (first
        | (refine wpList_store_row rfl _ _ _ rfl w.heap.size #[.int .i64 0, .int .i64 0, .int .i64 0, .int .i64 0, .int .i64 0, .slice none 0 0, .slice none 0 0] rfl rfl 31 zF Dt10.out.hQ (by kernel_rfl) (by kernel_rfl) (by kernel_rfl) ?_))
       refine bodyPost_ret (dec_ret _ _ w.heap.size _ 2 rfl rfl (dec_row Dt10.out.hQ) rfl) rfl ?_
       exact ⟨_, _, rfl, Kd.R_nil _ _ _ _ _, Kd.R_nil _ _ _ _ _, below_setRow Dt10.out.hB (Nat.le_refl _) _⟩
end Go.Proofs.YtfpopmojlmpopaaDoor.H

end
section
namespace Go.Proofs.YtfpopmojlmpopaaDoor.G
open Go.RowKit Go.Proofs.YtfpopmojlmpopaaDoorW.PrintWords Go.Proofs.YtfpopmojlmpopaaDoorW.PrintLast Go.Proofs.YtfpopmojlmpopaaDoorW.PrintMore
attribute [local go_sem] max2_int min2_int max_two min_two max_three min_three max_four min_four
set_option linter.unusedVariables false
set_option linter.unusedSimpArgs false
def slices_Equal_string_string.l0 : Nat → List ByteArray → List ByteArray → Int → Int → Option (Bool)
 | 0, _, _, _, _ => none
 | k + 1, x0, x1, x12, x13 => if x13 < x12 then (if 0 ≤ x13 then (if x13 < (x0.length : Int) then (if x13 < (x1.length : Int) then (if (rdOf ByteArray.empty x0 x13).toList = (rdOf ByteArray.empty x1 x13).toList then (slices_Equal_string_string.l0 k x0 x1 x12 (wrap64 (x13 + 1))) else (some false)) else (none)) else (none)) else (none)) else (some true)
def slices_Equal_string_string.f (k : Nat) (l0 : List ByteArray) (l1 : List ByteArray) : Option (Bool) := if (l0.length : Int) = (l1.length : Int) then (slices_Equal_string_string.l0 k l0 l1 (l0.length : Int) 0) else (some false)
set_option maxHeartbeats 8000000 in
set_option maxRecDepth 100000 in
theorem slices_Equal_string_string.calls (k : Nat) (A0 : Option Addr) (c0 : Nat) (l0 : List ByteArray) (A1 : Option Addr) (c1 : Nat) (l1 : List ByteArray) (r : Bool) (w : World) (hr0 : Kd.C Kd.string w A0 l0.length l0) (hc0 : l0.length ≤ c0) (hr1 : Kd.C Kd.string w A1 l1.length l1) (hc1 : l1.length ≤ c1) (h : slices_Equal_string_string.f k l0 l1 = some r) :
  Calls Tryd.prog 49 #[.slice A0 l0.length c0, .slice A1 l1.length c1] w fun e w' => e = .returned (.bool r) ∧ Drawn0 w w' := by
 have HR0 := Aside0.mk hr0
 have HC0 := Aside0.mk hc0
 clear hr0 hc0
 have HR1 := Aside0.mk hr1
 have HC1 := Aside0.mk hc1
 clear hr1 hc1
 have H : (if (l0.length : Int) = (l1.length : Int) then (slices_Equal_string_string.l0 k l0 l1 (l0.length : Int) 0) else (some false)) = some r := h
 clear h
 by_cases c3 : (l0.length : Int) = (l1.length : Int)
 ·rw [if_pos c3] at H
  have c3b0 : ((l0.length : Int) == (l1.length : Int)) = true := beq_iff_eq.mpr c3
  have c3b1 : ((l0.length : Int) != (l1.length : Int)) = false := bne_eq_false_iff_eq.mpr c3
  have c3b2 : (l0.length == l1.length) = true := by first | simpa using c3 | (simp at c3 ⊢; omega)
  clear c3
  have H' := Aside0.mk H
  clear H
  go_enter Tryd.func49, Tryd.ntmps49
  go_wp2
  repeat (go_quiet (fail); try go_wp2)
  go_loopg [13] k (fun kq v13 w' => ∃ (x13_1 : Int), v13 = .int .i64 x13_1 ∧ Aside0 (slices_Equal_string_string.l0 kq l0 l1 (l0.length : Int) x13_1 = some r) ∧ Aside0 (kq ≤ k) ∧ Drawn0 w w')
  case atStart => exact ⟨(0), (by first | rfl | (simp; done) | (simp [*]; done)), H', ⟨Nat.le_refl _⟩, by repeat (first | exact Drawn0.refl _ | apply Drawn0.step)⟩
  case round =>
   clear H'
   try clear c1
   try clear p2
   try clear c3
   try clear c3b0
   try clear c3b1
   try clear c3b2
   obtain ⟨x13_1, rfl, HA, HK1, ⟨m1, rfl⟩⟩ := hrel
   cases gk with
   | zero => exact absurd HA.out (by simp [slices_Equal_string_string.l0])
   | succ k1 =>
    have H := HA.out
    clear HA
    simp only [slices_Equal_string_string.l0] at H
    by_cases c4 : x13_1 < (l0.length : Int)
    ·rw [if_pos c4] at H
     have c4b0 : decide (x13_1 < (l0.length : Int)) = true := decide_eq_true c4
     clear c4
     by_cases c5 : 0 ≤ x13_1
     ·rw [if_pos c5] at H
      have c5b0 : decide (0 ≤ x13_1) = true := decide_eq_true c5
      clear c5
      by_cases c6 : x13_1 < (l0.length : Int)
      ·rw [if_pos c6] at H
       have c6b0 : decide (x13_1 < (l0.length : Int)) = true := decide_eq_true c6
       clear c6
       by_cases c7 : x13_1 < (l1.length : Int)
       ·rw [if_pos c7] at H
        have c7b0 : decide (x13_1 < (l1.length : Int)) = true := decide_eq_true c7
        clear c7
        by_cases c8 : (rdOf ByteArray.empty l0 x13_1).toList = (rdOf ByteArray.empty l1 x13_1).toList
        ·rw [if_pos c8] at H
         have c8b0 : ((rdOf ByteArray.empty l0 x13_1).toList == (rdOf ByteArray.empty l1 x13_1).toList) = true := beq_iff_eq.mpr c8
         have c8b1 : ((rdOf ByteArray.empty l0 x13_1).toList != (rdOf ByteArray.empty l1 x13_1).toList) = false := bne_eq_false_iff_eq.mpr c8
         clear c8
         have H' := Aside0.mk H
         clear H
         have p436 : 0 ≤ (x13_1 : Int) := of_decide_eq_true (by first | (with_reducible assumption) | assumption)
         have q436 : x13_1 < (l0.length : Int) := of_decide_eq_true (by first | (with_reducible assumption) | assumption)
         obtain ⟨ad436, e436, hx436_0⟩ := Kd.at_string HR0.out x13_1 p436 q436
         cases e436
         replace p436 := eq_true p436
         replace q436 := eq_true q436
         have p437 : 0 ≤ (x13_1 : Int) := of_decide_eq_true (by first | (with_reducible assumption) | assumption)
         have q437 : x13_1 < (l1.length : Int) := of_decide_eq_true (by first | (with_reducible assumption) | assumption)
         obtain ⟨ad437, e437, hx437_0⟩ := Kd.at_string HR1.out x13_1 p437 q437
         cases e437
         replace p437 := eq_true p437
         replace q437 := eq_true q437
         go_wp2
         repeat (go_quiet (fail); try go_wp2)
         go_roundg k1
         case measure => have := HK1.out; omega
         case rel => exact ⟨(wrap64 (x13_1 + 1)), (by first | rfl | (simp; done) | (simp [*]; done)), H', ⟨by have := HK1.out; omega⟩, by repeat (first | exact Drawn0.refl _ | apply Drawn0.step)⟩
        ·rw [if_neg c8] at H
         have c8b0 : ((rdOf ByteArray.empty l0 x13_1).toList == (rdOf ByteArray.empty l1 x13_1).toList) = false := beq_eq_false_iff_ne.mpr c8
         have c8b1 : ((rdOf ByteArray.empty l0 x13_1).toList != (rdOf ByteArray.empty l1 x13_1).toList) = true := bne_iff_ne.mpr c8
         obtain rfl := Option.some.inj H
         have p436 : 0 ≤ (x13_1 : Int) := of_decide_eq_true (by first | (with_reducible assumption) | assumption)
         have q436 : x13_1 < (l0.length : Int) := of_decide_eq_true (by first | (with_reducible assumption) | assumption)
         obtain ⟨ad436, e436, hx436_0⟩ := Kd.at_string HR0.out x13_1 p436 q436
         cases e436
         replace p436 := eq_true p436
         replace q436 := eq_true q436
         have p437 : 0 ≤ (x13_1 : Int) := of_decide_eq_true (by first | (with_reducible assumption) | assumption)
         have q437 : x13_1 < (l1.length : Int) := of_decide_eq_true (by first | (with_reducible assumption) | assumption)
         obtain ⟨ad437, e437, hx437_0⟩ := Kd.at_string HR1.out x13_1 p437 q437
         cases e437
         replace p437 := eq_true p437
         replace q437 := eq_true q437
         go_wp2
         repeat (go_quiet (fail); try go_wp2)
         go_ret
         exact ⟨by first | rfl | (simp; done) | (simp [*]; done), by repeat (first | exact Drawn0.refl _ | apply Drawn0.step)⟩
       ·rw [if_neg c7] at H
        exact absurd H (by simp)
      ·rw [if_neg c6] at H
       exact absurd H (by simp)
     ·rw [if_neg c5] at H
      exact absurd H (by simp)
    ·rw [if_neg c4] at H
     have c4b0 : decide (x13_1 < (l0.length : Int)) = false := decide_eq_false c4
     clear c4
     obtain rfl := Option.some.inj H
     go_wp2
     repeat (go_quiet (fail); try go_wp2)
     go_ret
     exact ⟨by first | rfl | (simp; done) | (simp [*]; done), by repeat (first | exact Drawn0.refl _ | apply Drawn0.step)⟩
 ·rw [if_neg c3] at H
  have c3b0 : ((l0.length : Int) == (l1.length : Int)) = false := beq_eq_false_iff_ne.mpr c3
  have c3b1 : ((l0.length : Int) != (l1.length : Int)) = true := bne_iff_ne.mpr c3
  have c3b2 : (l0.length == l1.length) = false := by first | simpa using c3 | (simp at c3 ⊢; omega)
  obtain rfl := Option.some.inj H
  go_enter Tryd.func49, Tryd.ntmps49
  go_wp2
  repeat (go_quiet (fail); try go_wp2)
  go_ret
  exact ⟨by first | rfl | (simp; done) | (simp [*]; done), by repeat (first | exact Drawn0.refl _ | apply Drawn0.step)⟩
end Go.Proofs.YtfpopmojlmpopaaDoor.G

end
section
namespace Go.Proofs.YtfpopmojlmpopaaDoor.H
open Go.RowKit Go.Proofs.YtfpopmojlmpopaaDoorW.PrintWords Go.Proofs.YtfpopmojlmpopaaDoorW.PrintLast Go.Proofs.YtfpopmojlmpopaaDoorW.PrintMore Go.Proofs.YtfpopmojlmpopaaDoor.G
set_option linter.unusedVariables false
set_option linter.unusedSimpArgs false
def sameE (x y : S52) : Bool := (x.f0 == y.f0) && ((x.f1 == y.f1) && decide (x.f2 = y.f2))
theorem eqL_tail (l0 l1 : List ByteArray) (hl : l0.length = l1.length) (hb : l0.length ≤ 9223372036854775807) : ∀ (m k : Nat), k + m = l0.length → l0.take k = l1.take k →
  ∀ K, m < K → slices_Equal_string_string.l0 K l0 l1 (l0.length : Int) (k : Int) = some (decide (l0 = l1))
 | 0, k, hk, ht, K, hK => by
  obtain ⟨K, rfl⟩ : ∃ K', K = K' + 1 := ⟨K - 1, by omega⟩
  rw [slices_Equal_string_string.l0, if_neg (by omega)]
  rw [List.take_of_length_le (by omega), List.take_of_length_le (by omega)] at ht
  simp [ht]
 | m + 1, k, hk, ht, K, hK => by
  obtain ⟨K, rfl⟩ : ∃ K', K = K' + 1 := ⟨K - 1, by omega⟩
  rw [slices_Equal_string_string.l0, if_pos (by omega), if_pos (by omega), if_pos (by omega), if_pos (by omega)]
  have e0 : rdOf ByteArray.empty l0 (k : Int) = l0[k]'(by omega) := by simp [rdOf, List.getD, show k < l0.length from by omega]
  have e1 : rdOf ByteArray.empty l1 (k : Int) = l1[k]'(by omega) := by simp [rdOf, List.getD, show k < l1.length from by omega]
  rw [e0, e1]
  by_cases he : (l0[k]'(by omega)).toList = (l1[k]'(by omega)).toList
  ·rw [if_pos he]
   have he' : l0[k]'(by omega) = l1[k]'(by omega) := by
    rw [ByteArray.toList_eq, ByteArray.toList_eq] at he
    generalize l0[k]'(by omega) = x at he ⊢
    generalize l1[k]'(by omega) = y at he ⊢
    obtain ⟨⟨x⟩⟩ := x
    obtain ⟨⟨y⟩⟩ := y
    simp only at he
    rw [he]
   rw [show wrap64 ((k : Int) + 1) = ((k + 1 : Nat) : Int) from by simp only [wrap64]; omega]
   exact eqL_tail l0 l1 hl hb m (k + 1) (by omega) (by rw [List.take_add_one, List.take_add_one, ht, List.getElem?_eq_getElem (by omega), List.getElem?_eq_getElem (by omega), he']) K (by omega)
  ·rw [if_neg he]
   have : l0 ≠ l1 := by rintro rfl; exact he rfl
   simp [this]
theorem eqL (l0 l1 : List ByteArray) (hb : l0.length ≤ 9223372036854775807) : slices_Equal_string_string.f (l0.length + 1) l0 l1 = some (decide (l0 = l1)) := by
 unfold slices_Equal_string_string.f
 by_cases hl : l0.length = l1.length
 ·rw [if_pos (by omega)]
  exact eqL_tail l0 l1 hl hb l0.length 0 (by omega) rfl _ (by omega)
 ·rw [if_neg (by omega)]
  have : l0 ≠ l1 := by rintro rfl; exact hl rfl
  simp [this]
theorem eqLines_calls (A0 : Option Addr) (c0 : Nat) (l0 : List ByteArray) (A1 : Option Addr) (c1 : Nat) (l1 : List ByteArray) (w : World) (h0 : Kd.C Kd.string w A0 l0.length l0) (hc0 : l0.length ≤ c0) (h1 : Kd.C Kd.string w A1 l1.length l1) (hc1 : l1.length ≤ c1) :
  Calls Tryd.prog 49 #[.slice A0 l0.length c0, .slice A1 l1.length c1] w fun e w' => e = .returned (.bool (decide (l0 = l1))) ∧ Below w.heap.size w w' :=
 (slices_Equal_string_string.calls (l0.length + 1) A0 c0 l0 A1 c1 l1 _ w h0 hc0 h1 hc1 (eqL l0 l1 (Kd.C_max h0))).mono (by rintro e w' ⟨rfl, hd⟩; exact ⟨rfl, hd.below⟩)
theorem C_ofE {α : Type} {d : Kd α} {w W : World} {A : Option Addr} {n : Nat} {l : List α} (h : Kd.C d w A n l) (hb : Below w.heap.size w W) : Kd.C d W A n l := Kd.C_below h hb
set_option maxHeartbeats 1000000 in
set_option maxRecDepth 100000 in
theorem sameEdit_calls (x y : S52) (A0 : Option Addr) (c0 : Nat) (A1 : Option Addr) (c1 : Nat) (w : World) (h0 : Kd.C Kd.string w A0 x.f2.length x.f2) (hc0 : x.f2.length ≤ c0) (h1 : Kd.C Kd.string w A1 y.f2.length y.f2) (hc1 : y.f2.length ≤ c1) :
  Calls Tryd.prog 51 #[.agg #[.int .i64 x.f0, .int .i64 x.f1, .slice A0 x.f2.length c0], .agg #[.int .i64 y.f0, .int .i64 y.f1, .slice A1 y.f2.length c1]] w fun e w' => e = .returned (.bool (sameE x y)) ∧ Below w.heap.size w w' := by
 have H0 := Lib.hid h0
 have H1 := Lib.hid h1
 clear h0 h1
 obtain ⟨x0, x1, x2⟩ := x
 obtain ⟨y0, y1, y2⟩ := y
 simp only at H0 H1 hc0 hc1 ⊢
 obtain ⟨q0, h0⟩ : ∃ q : Bool, (x0 == y0) = q := ⟨_, rfl⟩
 obtain ⟨q1, h1⟩ : ∃ q : Bool, (x1 == y1) = q := ⟨_, rfl⟩
 unfold sameE
 simp only [h0, h1]
 go_enter Tryd.func51, Tryd.ntmps51
 cases q0
 ·go_wp2_with fail
  go_ret
  exact ⟨rfl, by (repeat (first | (with_reducible first | exact Below.refl _ _ | apply below_alloc | apply pw_below_drewN | apply below_drew) | exact Below.refl _ _))⟩
 ·cases q1
  ·go_wp2_with fail
   go_ret
   exact ⟨rfl, by (repeat (first | (with_reducible first | exact Below.refl _ _ | apply below_alloc | apply pw_below_drewN | apply below_drew) | exact Below.refl _ _))⟩
  ·go_wp2_with fail
   refine (eqLines_calls A0 c0 x2 A1 c1 y2 _ (C_ofE H0.out (by (repeat (first | (with_reducible first | exact Below.refl _ _ | apply below_alloc | apply pw_below_drewN | apply below_drew) | exact Below.refl _ _)))) hc0 (C_ofE H1.out (by (repeat (first | (with_reducible first | exact Below.refl _ _ | apply below_alloc | apply pw_below_drewN | apply below_drew) | exact Below.refl _ _)))) hc1).mono ?_
   rintro e w1 ⟨rfl, hb⟩
   have HB : Hid (Below w.heap.size w w1) := Lib.hid (below_step (by (repeat (first | (with_reducible first | exact Below.refl _ _ | apply below_alloc | apply pw_below_drewN | apply below_drew) | exact Below.refl _ _))) hb)
   clear hb
   go_wp2_with fail
   go_ret
   exact ⟨rfl, HB.out⟩
def eqEdits (l0 l1 : List S52) : Bool := decide (l0.length = l1.length) && (List.zipWith sameE l0 l1).all id
theorem eqEdits_no (l0 l1 : List S52) (k : Nat) (h0 : k < l0.length) (h1 : k < l1.length) (h : sameE (rd_T52 l0 k) (rd_T52 l1 k) = false) : eqEdits l0 l1 = false := by
 unfold eqEdits
 rw [Bool.and_eq_false_iff]
 refine .inr (List.all_eq_false.2 ⟨false, ?_, by simp⟩)
 rw [List.mem_iff_getElem]
 refine ⟨k, by simp; omega, ?_⟩
 rw [List.getElem_zipWith]
 simpa [rd_T52, List.getD, h0, h1] using h
theorem eqEdits_yes (l0 l1 : List S52) (hl : l0.length = l1.length) (h : ∀ k : Nat, k < l0.length → sameE (rd_T52 l0 k) (rd_T52 l1 k) = true) : eqEdits l0 l1 = true := by
 unfold eqEdits
 rw [Bool.and_eq_true]
 refine ⟨by simpa using hl, List.all_eq_true.2 fun b hb => ?_⟩
 rw [List.mem_iff_getElem] at hb
 obtain ⟨k, hk, rfl⟩ := hb
 rw [List.getElem_zipWith]
 have hk0 : k < l0.length := by simp at hk; omega
 have hk1 : k < l1.length := by omega
 simpa [rd_T52, List.getD, hk0, hk1] using h k hk0
set_option maxHeartbeats 4000000 in
set_option maxRecDepth 100000 in
theorem EqualFunc_calls (l0 l1 : List S52) (A0 : Option Addr) (c0 : Nat) (A1 : Option Addr) (c1 : Nat) (w : World) (h0 : Kd.C k52 w A0 l0.length l0) (hc0 : l0.length ≤ c0) (h1 : Kd.C k52 w A1 l1.length l1) (hc1 : l1.length ≤ c1) :
  Calls Tryd.prog 50 #[.slice A0 l0.length c0, .slice A1 l1.length c1, .func (.func 51) #[] #[]] w fun e w' => e = .returned (.bool (eqEdits l0 l1)) ∧ Below w.heap.size w w' := by
 have H0 := Lib.hid h0
 have H1 := Lib.hid h1
 clear h0 h1
 have hm0 := Kd.C_max H0.out
 have hm1 := Kd.C_max H1.out
 obtain ⟨r, hr⟩ : ∃ r, eqEdits l0 l1 = r := ⟨_, rfl⟩
 rw [hr]
 have HR := Lib.hid hr
 clear hr
 go_enter Tryd.func50, Tryd.ntmps50
 by_cases hl : l0.length = l1.length
 ·have e1 : ((l0.length : Int) == (l1.length : Int)) = true := by rw [hl]; exact beq_self_eq_true _
  have e2 : ((l0.length : Int) != (l1.length : Int)) = false := by rw [bne, e1]; rfl
  have HLN := Lib.hid hl
  clear hl
  go_wp2_with fail
  go_loopw [17] (fun v wr => ∃ k : Nat, k ≤ l0.length ∧ v = .int .i64 k ∧ Hid (∀ j, j < k → sameE (rd_T52 l0 j) (rd_T52 l1 j) = true) ∧ Hid (Below w.heap.size w wr)) (fun v _ => l0.length - (intOf v).toNat)
  case atStart => exact ⟨0, by omega, rfl, Lib.hid (fun j hj => by omega), Lib.hid (Below.refl _ _)⟩
  case round =>
   obtain ⟨k, hk, rfl, HA, HB⟩ := hrel
   by_cases hlt : k < l0.length
   ·obtain ⟨ad, Ax, cx, rfl, hx0, hx1, hx2, hcx, hgx⟩ := at_T52 (C_ofE H0.out HB.out) k (by omega) (by omega)
    obtain ⟨bd, Ay, cy, rfl, hy0, hy1, hy2, hcy, hgy⟩ := at_T52 (C_ofE H1.out HB.out) k (by omega) (by have := HLN.out; omega)
    obtain ⟨x, hx⟩ : ∃ x, rd_T52 l0 k = x := ⟨_, rfl⟩
    obtain ⟨y, hy⟩ : ∃ y, rd_T52 l1 k = y := ⟨_, rfl⟩
    rw [hx] at hx0 hx1 hx2 hcx hgx
    rw [hy] at hy0 hy1 hy2 hcy hgy
    have HGX := Lib.hid hgx
    have HGY := Lib.hid hgy
    have HHX := Lib.hid hx
    have HHY := Lib.hid hy
    clear hx hy hgx hgy
    rw [Int.toNat_natCast] at hx0 hx1 hx2 hy0 hy1 hy2
    have hu52 := Tryd.underlying52
    have hlt2 : k < l1.length := by have := HLN.out; omega
    have k0 := eq_true (show (k : Int) < (l0.length : Int) from by omega)
    have k1 := eq_true (show (k : Int) < (l1.length : Int) from by omega)
    have k2 := eq_true (show (0 : Int) ≤ (k : Int) from by omega)
    have g0 := pw_cell_below (below_alloc (Below.refl wr.heap.size wr) (Obj.cells #[.int .i64 x.f0, .int .i64 x.f1, .slice Ax x.f2.length cx] 52)) hy0
    have g1 := pw_cell_below (below_alloc (Below.refl wr.heap.size wr) (Obj.cells #[.int .i64 x.f0, .int .i64 x.f1, .slice Ax x.f2.length cx] 52)) hy1
    have g2 := pw_cell_below (below_alloc (Below.refl wr.heap.size wr) (Obj.cells #[.int .i64 x.f0, .int .i64 x.f1, .slice Ax x.f2.length cx] 52)) hy2
    go_wp2_with fail
    refine (sameEdit_calls x y Ax cx Ay cy _ (C_ofE HGX.out (by (repeat (first | (with_reducible first | exact Below.refl _ _ | apply below_alloc | apply pw_below_drewN | apply below_drew) | exact Below.refl _ _)))) hcx (C_ofE HGY.out (by (repeat (first | (with_reducible first | exact Below.refl _ _ | apply below_alloc | apply pw_below_drewN | apply below_drew) | exact Below.refl _ _)))) hcy).mono ?_
    rintro e w1 ⟨rfl, hb⟩
    have HB1 : Hid (Below w.heap.size w w1) := Lib.hid (HB.out.trans ((below_step (by (repeat (first | (with_reducible first | exact Below.refl _ _ | apply below_alloc | apply pw_below_drewN | apply below_drew) | exact Below.refl _ _))) hb : Below wr.heap.size wr w1).mono HB.out.size))
    clear hb
    obtain ⟨q, hq⟩ : ∃ q, sameE x y = q := ⟨_, rfl⟩
    rw [hq]
    cases q
    ·go_wp2_with fail
     go_ret
     exact ⟨by rw [← HR.out, eqEdits_no l0 l1 k hlt hlt2 (by rw [HHX.out, HHY.out, hq])]; rfl, HB1.out⟩
    ·go_wp2_with fail
     go_roundw
     case rel => exact ⟨k + 1, by omega, by go_num, Lib.hid (fun j hj => by
      rcases Nat.lt_succ_iff_lt_or_eq.1 hj with hj | rfl
      ·exact HA.out j hj
      ·rw [HHX.out, HHY.out, hq]), Lib.hid HB1.out⟩
     case measure => simp [intOf]; omega
   ·have k0 := eq_false (show ¬ (k : Int) < (l0.length : Int) from by omega)
    have k1 := eq_false (show ¬ (k : Int) < (l1.length : Int) from by have := HLN.out; omega)
    go_wp2_with fail
    go_ret
    exact ⟨by rw [← HR.out, eqEdits_yes l0 l1 HLN.out (fun j hj => HA.out j (by omega))]; rfl, HB.out⟩
 ·have e1 : ((l0.length : Int) == (l1.length : Int)) = false := beq_eq_false_iff_ne.mpr (by omega)
  have e2 : ((l0.length : Int) != (l1.length : Int)) = true := by rw [bne, e1]; rfl
  go_wp2_with fail
  go_ret
  exact ⟨by rw [← HR.out]; simp [eqEdits, hl], Below.refl _ _⟩
def eqF (a0_0 : Int) (a0_1 : Int) (a0_2 : Int) (a0_3 : Int) (a0_4 : Int) (l0_5 : List ByteArray) (l0_6 : List S52) (a1_0 : Int) (a1_1 : Int) (a1_2 : Int) (a1_3 : Int) (a1_4 : Int) (l1_5 : List ByteArray) (l1_6 : List S52) : Bool := (a0_0 == a1_0) && ((a0_1 == a1_1) && ((a0_2 == a1_2) && ((a0_3 == a1_3) && ((a0_4 == a1_4) && (decide (l0_5 = l1_5) && eqEdits l0_6 l1_6)))))
def frame_Equal.f (k : Nat) (a0_0 : Int) (a0_1 : Int) (a0_2 : Int) (a0_3 : Int) (a0_4 : Int) (l0_5 : List ByteArray) (l0_6 : List S52) (a1_0 : Int) (a1_1 : Int) (a1_2 : Int) (a1_3 : Int) (a1_4 : Int) (l1_5 : List ByteArray) (l1_6 : List S52) : Option Bool := some (eqF a0_0 a0_1 a0_2 a0_3 a0_4 l0_5 l0_6 a1_0 a1_1 a1_2 a1_3 a1_4 l1_5 l1_6)
set_option maxHeartbeats 8000000 in
set_option maxRecDepth 100000 in
theorem frame_Equal.calls (k : Nat) (a0_0 : Int) (a0_1 : Int) (a0_2 : Int) (a0_3 : Int) (a0_4 : Int) (A0_5 : Option Addr) (c0_5 : Nat) (l0_5 : List ByteArray) (A0_6 : Option Addr) (c0_6 : Nat) (l0_6 : List S52) (a1_0 : Int) (a1_1 : Int) (a1_2 : Int) (a1_3 : Int) (a1_4 : Int) (A1_5 : Option Addr) (c1_5 : Nat) (l1_5 : List ByteArray) (A1_6 : Option Addr) (c1_6 : Nat) (l1_6 : List S52) (r : Bool) (w : World) (hr0_5 : Kd.C Kd.string w A0_5 l0_5.length l0_5) (hc0_5 : l0_5.length ≤ c0_5) (hr0_6 : Kd.C k52 w A0_6 l0_6.length l0_6) (hc0_6 : l0_6.length ≤ c0_6) (hr1_5 : Kd.C Kd.string w A1_5 l1_5.length l1_5) (hc1_5 : l1_5.length ≤ c1_5) (hr1_6 : Kd.C k52 w A1_6 l1_6.length l1_6) (hc1_6 : l1_6.length ≤ c1_6) (h : frame_Equal.f k a0_0 a0_1 a0_2 a0_3 a0_4 l0_5 l0_6 a1_0 a1_1 a1_2 a1_3 a1_4 l1_5 l1_6 = some r) :
  Calls Tryd.prog 25 #[.agg #[.int .i64 a0_0, .int .i64 a0_1, .int .i64 a0_2, .int .i64 a0_3, .int .i64 a0_4, .slice A0_5 l0_5.length c0_5, .slice A0_6 l0_6.length c0_6], .agg #[.int .i64 a1_0, .int .i64 a1_1, .int .i64 a1_2, .int .i64 a1_3, .int .i64 a1_4, .slice A1_5 l1_5.length c1_5, .slice A1_6 l1_6.length c1_6]] w fun e w' => e = .returned (.bool r) ∧ Below w.heap.size w w' := by
 obtain rfl : eqF a0_0 a0_1 a0_2 a0_3 a0_4 l0_5 l0_6 a1_0 a1_1 a1_2 a1_3 a1_4 l1_5 l1_6 = r := Option.some.inj h
 clear h
 have H05 := Lib.hid hr0_5
 have H06 := Lib.hid hr0_6
 have H15 := Lib.hid hr1_5
 have H16 := Lib.hid hr1_6
 clear hr0_5 hr0_6 hr1_5 hr1_6
 obtain ⟨q5, h5⟩ : ∃ q : Bool, decide (l0_5 = l1_5) = q := ⟨_, rfl⟩
 obtain ⟨q6, h6⟩ : ∃ q : Bool, eqEdits l0_6 l1_6 = q := ⟨_, rfl⟩
 obtain ⟨q0, h0⟩ : ∃ q : Bool, (a0_0 == a1_0) = q := ⟨_, rfl⟩
 obtain ⟨q1, h1⟩ : ∃ q : Bool, (a0_1 == a1_1) = q := ⟨_, rfl⟩
 obtain ⟨q2, h2⟩ : ∃ q : Bool, (a0_2 == a1_2) = q := ⟨_, rfl⟩
 obtain ⟨q3, h3⟩ : ∃ q : Bool, (a0_3 == a1_3) = q := ⟨_, rfl⟩
 obtain ⟨q4, h4⟩ : ∃ q : Bool, (a0_4 == a1_4) = q := ⟨_, rfl⟩
 unfold eqF
 rw [h0, h1, h2, h3, h4, h5, h6]
 have HQ5 := Lib.hid h5
 have HQ6 := Lib.hid h6
 clear h5 h6
 go_enter Tryd.func25, Tryd.ntmps25
 cases q0
 ·go_wp2_with fail
  go_ret
  exact ⟨rfl, by (repeat (first | (with_reducible first | exact Below.refl _ _ | apply below_alloc | apply pw_below_drewN | apply below_drew) | exact Below.refl _ _))⟩
 ·skip
  cases q1
  ·go_wp2_with fail
   go_ret
   exact ⟨rfl, by (repeat (first | (with_reducible first | exact Below.refl _ _ | apply below_alloc | apply pw_below_drewN | apply below_drew) | exact Below.refl _ _))⟩
  ·skip
   cases q2
   ·go_wp2_with fail
    go_ret
    exact ⟨rfl, by (repeat (first | (with_reducible first | exact Below.refl _ _ | apply below_alloc | apply pw_below_drewN | apply below_drew) | exact Below.refl _ _))⟩
   ·skip
    cases q3
    ·go_wp2_with fail
     go_ret
     exact ⟨rfl, by (repeat (first | (with_reducible first | exact Below.refl _ _ | apply below_alloc | apply pw_below_drewN | apply below_drew) | exact Below.refl _ _))⟩
    ·skip
     cases q4
     ·go_wp2_with fail
      go_ret
      exact ⟨rfl, by (repeat (first | (with_reducible first | exact Below.refl _ _ | apply below_alloc | apply pw_below_drewN | apply below_drew) | exact Below.refl _ _))⟩
     ·skip
      go_wp2_with fail
      refine (eqLines_calls A0_5 c0_5 l0_5 A1_5 c1_5 l1_5 _ (C_ofE H05.out (by (repeat (first | (with_reducible first | exact Below.refl _ _ | apply below_alloc | apply pw_below_drewN | apply below_drew) | exact Below.refl _ _)))) hc0_5 (C_ofE H15.out (by (repeat (first | (with_reducible first | exact Below.refl _ _ | apply below_alloc | apply pw_below_drewN | apply below_drew) | exact Below.refl _ _)))) hc1_5).mono ?_
      rintro e w1 ⟨rfl, hb⟩
      have HB : Hid (Below w.heap.size w w1) := Lib.hid (below_step (by (repeat (first | (with_reducible first | exact Below.refl _ _ | apply below_alloc | apply pw_below_drewN | apply below_drew) | exact Below.refl _ _))) hb)
      have e0 := hb
      rw [HQ5.out]
      cases q5
      ·clear e0 hb
       go_wp2_with fail
       go_ret
       exact ⟨rfl, HB.out⟩
      ·have G0 : w1.cell? ⟨w.heap.size, 6, none⟩ = some (.slice A0_6 l0_6.length c0_6) := pw_cell_below hb ((blk_cell (blk_alloc (heap_alloc_new w _) _) 6).trans rfl)
       have G1 : w1.cell? ⟨w.heap.size + 1, 6, none⟩ = some (.slice A1_6 l1_6.length c1_6) := pw_cell_below hb (by
        simp)
       clear e0 hb
       go_wp2_with fail
       refine (EqualFunc_calls l0_6 l1_6 A0_6 c0_6 A1_6 c1_6 w1 (C_ofE H06.out HB.out) hc0_6 (C_ofE H16.out HB.out) hc1_6).mono ?_
       rintro e w2 ⟨rfl, hb⟩
       have HB2 : Hid (Below w.heap.size w w2) := Lib.hid (below_step HB.out hb)
       clear hb
       rw [HQ6.out]
       go_wp2_with fail
       go_ret
       exact ⟨rfl, HB2.out⟩
end Go.Proofs.YtfpopmojlmpopaaDoor.H

end
section
namespace Go.Proofs.YtfpopmojlmpopaaDoor.H
open Go.RowKit Go.Proofs.YtfpopmojlmpopaaDoorW.PrintWords Go.Proofs.YtfpopmojlmpopaaDoorW.PrintLast Go.Proofs.YtfpopmojlmpopaaDoorW.PrintMore Go.Proofs.YtfpopmojlmpopaaDoor.G
set_option linter.unusedVariables false
set_option linter.unusedSimpArgs false
abbrev SE (W : World) (b : Nat) (ok : Nat → Prop) (v : Value) (out : List S52) : Prop := Kd.S k52 52 W b ok v out
section
variable {W W1 w : World} {b g n cap : Nat} {v : Value} {out : List S52}
theorem se_typed {W : World} {b : Nat} {ok : Nat → Prop} {v : Value} {out : List S52} (h : SE W b ok v out) : ∀ k, v.ownBlock = some k → ∃ cells, W.heap[k]? = some (.cells cells 52 (0, 0)) := Kd.S_typed h
theorem rows_grown {α : Type} {d : Kd α} {e : Nat} {W W1 : World} {b : Nat} {vT : Value} {T : List α} {row : Option Nat} (t : Nat) (hT : Kd.S d e W b (fun _ => True) vT T) (hg : W.grownBy W1 row) (hr : ∀ k, row = some k → ∃ cells, W.heap[k]? = some (.cells cells t (0, 0))) (ht : ∀ q, q ∈ e :: d.E → q ≠ t) : Kd.S d e W1 b (fun _ => True) vT T :=
 Kd.S_mono (Kd.S_grown (Kd.S_bound hT) hg (fun k hk he => by
  obtain ⟨_, _, _, q, hq, cells, hc⟩ := hk
  obtain ⟨cells', hc'⟩ := hr k he.symm
  rw [hc] at hc'
  injection hc' with hc'; injection hc' with _ h2 _
  exact ht q hq h2)) (fun _ _ => trivial)
theorem own_ne9 {W : World} {b g : Nat} {ok : Nat → Prop} {v : Value} {l : List ByteArray} {cz : Array Value} (h : Kd.R Kd.string 9 W b ok v l) (hz : W.heap[g]? = some (.cells cz 52 (0, 0))) : some g ≠ v.ownBlock := by
 intro he
 obtain ⟨inner, ho⟩ := Kd.R_own h
 obtain ⟨cells, hc⟩ := own_typed ho g he.symm
 rw [hz] at hc
 injection hc with hc; injection hc with _ h2 _
 exact absurd h2 (by decide)
theorem last_get (hS : SE W b (fun _ => True) (.slice (some ⟨g, 0, none⟩) n cap) out) (hn : 0 < out.length) :
  ∃ (oki : Nat → Prop) (v2 : Value), Kd.R Kd.string 9 W b oki v2 (rd_T52 out ((n : Int) - 1)).f2 ∧ (∀ k, oki k → k < W.heap.size) ∧
   Kd.H k52 52 W b (fun k => True ∧ ¬ (W.heap.size ≤ k)) (.slice (some ⟨g, 0, none⟩) n cap) out ((n : Int) - 1) oki [.int .i64 (rd_T52 out ((n : Int) - 1)).f0, .int .i64 (rd_T52 out ((n : Int) - 1)).f1, v2] := by
 have hlen := (Kd.S_reads' hS).1
 have hS' : SE W b (fun k => True ∧ ¬ (W.heap.size ≤ k)) (.slice (some ⟨g, 0, none⟩) n cap) out := Kd.S_mono (Kd.S_bound hS) (fun k hk => ⟨trivial, by have := hk.2.2.1; omega⟩)
 obtain ⟨oki, c, hcl, hM, hcc, hoki, hH⟩ := Kd.S_lend hS' z52 ((n : Int) - 1) (by omega) (by omega)
 obtain ⟨v2, rfl, hR⟩ := k52_openM hM
 exact ⟨oki, v2, hR, fun k hk => by have := (hoki k hk).1.2; omega, hH⟩
theorem last_cells {W : World} {ok oki : Nat → Prop} {c0 c1 c2 : Value} (hH : Kd.H k52 52 W b ok (.slice (some ⟨g, 0, none⟩) n cap) out ((n : Int) - 1) oki [c0, c1, c2]) (hn : 0 < n) :
  W.cell? ⟨g, (n - 1) * 3, none⟩ = some c0 ∧ W.cell? ⟨g, (n - 1) * 3 + 1, none⟩ = some c1 ∧ W.cell? ⟨g, (n - 1) * 3 + 2, none⟩ = some c2 ∧ ∀ j, W.frozen? ⟨g, (n - 1) * 3 + j, none⟩ = false := by
 have hi : ((n : Int) - 1).toNat = n - 1 := by omega
 obtain ⟨h1, h2⟩ := Kd.H_at hH (by omega) (by omega)
 rw [hi, show k52.sz = 3 from rfl] at h1 h2
 exact ⟨h1 0 _ rfl, h1 1 _ rfl, h1 2 _ rfl, h2⟩
def bumpE (out : List S52) (n : Nat) (x : Int) : List S52 := out.set (n - 1) ⟨(rd_T52 out ((n : Int) - 1)).f0, x, (rd_T52 out ((n : Int) - 1)).f2⟩
def addE (out : List S52) (n : Nat) (l : List ByteArray) : List S52 := out.set (n - 1) ⟨(rd_T52 out ((n : Int) - 1)).f0, (rd_T52 out ((n : Int) - 1)).f1, l⟩
theorem last_bump {oki : Nat → Prop} {v2 : Value} (hn : 0 < n) (hR : Kd.R Kd.string 9 W b oki v2 (rd_T52 out ((n : Int) - 1)).f2)
  (hH : Kd.H k52 52 W b (fun k => True ∧ ¬ (W.heap.size ≤ k)) (.slice (some ⟨g, 0, none⟩) n cap) out ((n : Int) - 1) oki [.int .i64 (rd_T52 out ((n : Int) - 1)).f0, .int .i64 (rd_T52 out ((n : Int) - 1)).f1, v2]) (x : Int) :
  SE (W.setCell ⟨g, (n - 1) * 3 + 1, none⟩ (.int .i64 x)) b (fun _ => True) (.slice (some ⟨g, 0, none⟩) n cap) (bumpE out n x) := by
 have hi : ((n : Int) - 1).toNat = n - 1 := by omega
 have h := (Kd.S_seg0 hH (by omega) (by omega) (seg := [.int .i64 x]) (j := 1) (show 1 + 1 ≤ 3 from by decide) (x' := ⟨(rd_T52 out ((n : Int) - 1)).f0, x, (rd_T52 out ((n : Int) - 1)).f2⟩) (k52_mkM W b oki _ hR) (fun _ hk => hk)).1
 rw [hi] at h
 exact Kd.S_mono h (fun _ _ => trivial)
theorem last_add {oki : Nat → Prop} {v2 v3 : Value} {l : List ByteArray} (hn : 0 < n) (hlt : ∀ k, oki k → k < W.heap.size) (hg : W.grownBy W1 v2.ownBlock) (hR0 : Kd.R Kd.string 9 W b oki v2 (rd_T52 out ((n : Int) - 1)).f2)
  (hR : Kd.R Kd.string 9 W1 b (fun k => oki k ∨ W.heap.size ≤ k) v3 l)
  (hH : Kd.H k52 52 W b (fun k => True ∧ ¬ (W.heap.size ≤ k)) (.slice (some ⟨g, 0, none⟩) n cap) out ((n : Int) - 1) oki [.int .i64 (rd_T52 out ((n : Int) - 1)).f0, .int .i64 (rd_T52 out ((n : Int) - 1)).f1, v2])
  (hgl : g < W.heap.size) :
  SE (W1.setCell ⟨g, (n - 1) * 3 + 2, none⟩ v3) b (fun _ => True) (.slice (some ⟨g, 0, none⟩) n cap) (addE out n l) := by
 have hi : ((n : Int) - 1).toNat = n - 1 := by omega
 have hH1 := Kd.H_grown hH hg (fun k hk => hR0.1 k hk)
 have h := (Kd.S_seg (ok := fun _ => True) (okg := fun k => W.heap.size ≤ k) (by exact hH1) (by omega) (by omega) (seg := [v3]) (j := 2) (show 2 + 1 ≤ 3 from by decide) (x' := (⟨(rd_T52 out ((n : Int) - 1)).f0, (rd_T52 out ((n : Int) - 1)).f1, l⟩ : S52)) (k52_mkM W1 b _ _ hR) (fun _ hk => hk) (fun k hk => ⟨trivial, by omega⟩)).1
 rw [hi] at h
 exact h
end
end Go.Proofs.YtfpopmojlmpopaaDoor.H

end
