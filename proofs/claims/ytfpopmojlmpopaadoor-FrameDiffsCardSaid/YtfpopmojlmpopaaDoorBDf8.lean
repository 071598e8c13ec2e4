/-
  Part 8 of the proof: words about memory and rows, functions of the program as Lean functions with the contracts that its code comes to just their answers, and plain lemmas; no conditions of its own.
-/
import Derived.Lib.SlBytesConst
import Derived.Test.YtfpopmojlmpopaaDoorBDf1
import Derived.Test.YtfpopmojlmpopaaDoorBDf2
import Derived.Test.YtfpopmojlmpopaaDoorBDf3
import Derived.Test.YtfpopmojlmpopaaDoorBDf4
import Derived.Test.YtfpopmojlmpopaaDoorBDf5
import Derived.Test.YtfpopmojlmpopaaDoorBDf7
section
namespace Go.Proofs.YtfpopmojlmpopaaDoor.H
open Go.RowKit Go.Proofs.YtfpopmojlmpopaaDoorW.PrintWords Go.Proofs.YtfpopmojlmpopaaDoorW.PrintLast Go.Proofs.YtfpopmojlmpopaaDoorW.PrintMore Go.Proofs.YtfpopmojlmpopaaDoor.G
set_option linter.unusedVariables false
set_option linter.unusedSimpArgs false
def aw21 : List Int := [108, 105, 52, 59, 105, 48, 59, 105, 51, 59, 105, 49, 59, 105, 50, 59, 108, 101, 108, 101, 101]
def aw25 : List Int := aw21 ++ digs (crcL 65535 aw21)
theorem aw_enc : frame_Encode.f 100 4 0 3 1 2 [] [] = some (aw25, 0) := by kernel_rfl
theorem aw_dec : frame_Decode.f 100 aw25 = some (4, 0, 3, 1, 2, [], [], 0) := by kernel_rfl
theorem aw_diff : frame_Diff.f 30 [⟨#[97]⟩, ⟨#[98]⟩] [⟨#[98]⟩, ⟨#[97]⟩] = some ([⟨0, 1, []⟩, ⟨2, 0, [⟨#[97]⟩]⟩], 0) := by kernel_rfl
theorem aw_apply : frame_Apply.f 30 [⟨#[97]⟩, ⟨#[98]⟩, ⟨#[99]⟩] [⟨1, 1, [⟨#[120]⟩]⟩] = some ([⟨#[97]⟩, ⟨#[120]⟩, ⟨#[99]⟩], 0) := by kernel_rfl
theorem aw_eq : frame_Equal.f 1 4 0 3 1 2 [] [] 4 0 3 1 2 [] [] = some true := by kernel_rfl
theorem aw_edits : salchowref49_SameEdits.f 30 [⟨0, 1, []⟩, ⟨2, 0, [⟨#[97]⟩]⟩] [⟨0, 1, []⟩, ⟨2, 0, [⟨#[97]⟩]⟩] = some true := by kernel_rfl
theorem aw_lines : salchowref49_SameLines.f 30 [⟨#[97]⟩, ⟨#[120]⟩, ⟨#[99]⟩] [⟨#[97]⟩, ⟨#[120]⟩, ⟨#[99]⟩] = some true := by kernel_rfl
theorem aw_sum : frame_Sum.f [49, 50, 51, 52, 53, 54, 55, 56, 57] = some 10673 := by kernel_rfl
theorem C_strs {W : World} {b : Nat} (l : List ByteArray) {fr : Nat × Nat} (hl : l.length ≤ 9223372036854775807) (h : W.heap[b]? = some (.cells (l.map Value.string).toArray 9 fr)) : Kd.C Kd.string W (some ⟨b, 0, none⟩) l.length l :=
 Kd.C_of_reads (enc := Value.string) (d := ByteArray.empty) (h1 := fun _ => rfl) ⟨rfl, hl, fun _ => ⟨_, rfl, fun j hj => by
  rw [add_plain, cell_of_row _ _ _ _ _ _ h]
  simp [List.getD, hj]⟩⟩
theorem C_eds {W : World} {b : Nat} (l : List S52) (cs : List (List Value)) {fr : Nat × Nat} (hl : l.length ≤ 9223372036854775807) (hcl : cs.length = l.length) (h : W.heap[b]? = some (.cells cs.flatten.toArray 52 fr))
  (hk : ∀ j (h1 : j < l.length) (h2 : j < cs.length), k52.K W l[j] cs[j]) (hf : ∀ j (h2 : j < cs.length) i u, cs[j][i]? = some u → cs.flatten[j * 3 + i]? = some u) : Kd.C k52 W (some ⟨b, 0, none⟩) l.length l := by
 refine ⟨rfl, hl, fun _ => ⟨_, rfl, fun j p hj => ?_⟩⟩
 obtain ⟨h1, rfl⟩ := List.getElem?_eq_some_iff.1 hj
 refine ⟨cs[j]'(by omega), k52.K_len (hk j h1 (by omega)), hk j h1 (by omega), fun i u hu => ?_⟩
 rw [add_plain, cell_of_row _ _ _ _ _ _ h, List.getElem?_toArray]
 exact hf j (by omega) i u hu
def salchowlaw49_awake.f : Option Bool := some true
set_option maxHeartbeats 8000000 in
set_option maxRecDepth 100000 in
theorem salchowlaw49_awake.calls (r : Bool) (w : World) (hLd : Laid w) (h : salchowlaw49_awake.f = some r) :
  Calls Tryd.prog 10 #[] w fun e w' => e = .returned (.bool r) ∧ Below w.heap.size w w' := by
 obtain rfl : true = r := Option.some.inj h
 clear h
 have HL := Lib.hid hLd
 clear hLd
 go_enter Tryd.func10, Tryd.ntmps10
 go_wp2_with fail
 have HB0 : Hid (Below w.heap.size w (w.alloc (Obj.cells #[.int .i64 4, .int .i64 0, .int .i64 3, .int .i64 1, .int .i64 2, .slice none 0 0, .slice none 0 0] 31))) := Lib.hid (below_alloc (Below.refl _ _) _)
 have HF0 : Hid ((w.alloc (Obj.cells #[.int .i64 4, .int .i64 0, .int .i64 3, .int .i64 1, .int .i64 2, .slice none 0 0, .slice none 0 0] 31)).heap[w.heap.size]? = some (.cells #[.int .i64 4, .int .i64 0, .int .i64 3, .int .i64 1, .int .i64 2, .slice none 0 0, .slice none 0 0] 31 (0, 0))) := Lib.hid (heap_alloc_new _ _)
 generalize w.alloc (Obj.cells #[.int .i64 4, .int .i64 0, .int .i64 3, .int .i64 1, .int .i64 2, .slice none 0 0, .slice none 0 0] 31) = w0 at HB0 HF0 ⊢
 refine (frame_Encode.calls 100 4 0 3 1 2 none 0 [] none 0 [] aw25 0 w0 (HL.out.below HB0.out) (Kd.C_nil _ _) (Nat.le_refl _) (Kd.C_nil _ _) (Nat.le_refl _) aw_enc).mono ?_
 rintro e w1 ⟨A1, c1, rfl, hc1, hC1, hb1⟩
 have HC1 := Lib.hid (And.intro hc1 hC1)
 have HB1 : Hid (Below w.heap.size w w1) := Lib.hid (below_step HB0.out hb1)
 have HF1 := Lib.hid ((hb1.block _ (blk_lt HF0.out)).trans HF0.out)
 clear hc1 hC1 hb1 HB0 HF0
 go_wp2_with fail
 refine (frame_Decode.calls 100 A1 c1 aw25 4 0 3 1 2 [] [] 0 w1 (HL.out.below HB1.out) HC1.out.2 HC1.out.1 aw_dec).mono ?_
 rintro e w2 ⟨v0, v1, rfl, hr0, hr1, hb2⟩
 obtain ⟨A2, c2, rfl, hc2, hC2⟩ := Kd.R_reads hr0
 obtain ⟨A3, c3, rfl, hc3, hC3⟩ := Kd.R_reads hr1
 have HR2 := Lib.hid (And.intro hc2 hC2)
 have HR3 := Lib.hid (And.intro hc3 hC3)
 have HB2 : Hid (Below w.heap.size w w2) := Lib.hid (below_step HB1.out hb2)
 have HC2 := Lib.hid (Kd.C_below HC1.out.2 hb2)
 have HF2 := Lib.hid ((hb2.block _ (blk_lt HF1.out)).trans HF1.out)
 clear hr0 hr1 hc2 hC2 hc3 hC3 hb2 HB1 HF1
 go_wp2_with fail
 have HS0 : Hid (w2.heap.size = w2.heap.size) := Lib.hid rfl
 obtain ⟨W3, hW3⟩ : ∃ W3, w2.alloc (Obj.cells #[.int .i64 4, .int .i64 0, .int .i64 3, .int .i64 1, .int .i64 2, .slice A2 0 c2, .slice A3 0 c3] 31) = W3 := ⟨_, rfl⟩
 have HB3 : Hid (Below w.heap.size w W3) := Lib.hid (by rw [← hW3]; exact below_alloc HB2.out _)
 have HF3 := Lib.hid (show W3.heap[w.heap.size]? = some (.cells #[.int .i64 4, .int .i64 0, .int .i64 3, .int .i64 1, .int .i64 2, .slice none 0 0, .slice none 0 0] 31 (0, 0)) from by rw [← hW3]; exact blk_alloc HF2.out _)
 have HG3 : Hid (W3.heap[w2.heap.size]? = some (.cells #[.int .i64 4, .int .i64 0, .int .i64 3, .int .i64 1, .int .i64 2, .slice A2 0 c2, .slice A3 0 c3] 31 (0, 0))) := Lib.hid (by rw [← hW3]; exact heap_alloc_new _ _)
 have HZ3 : Hid (W3.heap.size = w2.heap.size + 1) := Lib.hid (by rw [← hW3]; simp)
 have hz3 := HZ3.out
 simp only [hW3]
 have hA : ((W3.alloc (Obj.cells #[.string ⟨#[97]⟩, .string ⟨#[98]⟩] 9)).alloc (Obj.cells #[.string ⟨#[98]⟩, .string ⟨#[97]⟩] 9)).heap[w2.heap.size + 1]? = some (.cells #[.string ⟨#[97]⟩, .string ⟨#[98]⟩] 9 (0, 0)) := by rw [← hz3]; exact blk_alloc (heap_alloc_new _ _) _
 have hB : ((W3.alloc (Obj.cells #[.string ⟨#[97]⟩, .string ⟨#[98]⟩] 9)).alloc (Obj.cells #[.string ⟨#[98]⟩, .string ⟨#[97]⟩] 9)).heap[w2.heap.size + 1 + 1]? = some (.cells #[.string ⟨#[98]⟩, .string ⟨#[97]⟩] 9 (0, 0)) := by
  have h := heap_alloc_new (W3.alloc (Obj.cells #[.string ⟨#[97]⟩, .string ⟨#[98]⟩] 9)) (Obj.cells #[.string ⟨#[98]⟩, .string ⟨#[97]⟩] 9)
  rwa [show (W3.alloc (Obj.cells #[.string ⟨#[97]⟩, .string ⟨#[98]⟩] 9)).heap.size = w2.heap.size + 1 + 1 from by simp [hz3]] at h
 refine (frame_Diff.calls 30 (some ⟨w2.heap.size + 1, 0, none⟩) 2 [⟨#[97]⟩, ⟨#[98]⟩] (some ⟨w2.heap.size + 1 + 1, 0, none⟩) 2 [⟨#[98]⟩, ⟨#[97]⟩] _ 0 _ (C_strs _ (by decide) hA) (Nat.le_refl _) (C_strs _ (by decide) hB) (Nat.le_refl _) aw_diff).mono ?_
 rintro e w4 ⟨v4, rfl, hS4, hb4⟩
 obtain ⟨A4, c4, rfl, hc4, hC4⟩ := Kd.S_reads hS4
 have HR4 := Lib.hid (And.intro hc4 hC4)
 have HB4 : Hid (Below w.heap.size w w4) := Lib.hid (below_step (below_alloc (below_alloc HB3.out _) _) hb4)
 have HF4 := Lib.hid ((hb4.block _ (blk_lt (blk_alloc (blk_alloc HF3.out _) _))).trans (blk_alloc (blk_alloc HF3.out _) _))
 have HG4 := Lib.hid ((hb4.block _ (blk_lt (blk_alloc (blk_alloc HG3.out _) _))).trans (blk_alloc (blk_alloc HG3.out _) _))
 have HU : Hid (Below w2.heap.size w2 w4) := Lib.hid (by
  have h3 : Below w2.heap.size w2 W3 := by rw [← hW3]; exact below_alloc (Below.refl _ _) _
  exact below_step (below_alloc (below_alloc h3 _) _) hb4)
 have HD2 := Lib.hid (Kd.C_below HC2.out HU.out)
 have HR24 := Lib.hid (Kd.C_below HR2.out.2 HU.out)
 have HR34 := Lib.hid (Kd.C_below HR3.out.2 HU.out)
 clear hS4 hc4 hC4 hb4 hA hB hz3 hW3 HF3 HG3 HZ3 HB3 HF2 HB2 HC2
 generalize w2.heap.size = g2 at HG4 ⊢
 go_wp2_with fail
 have hP : (((w4.alloc (Obj.cells #[.string ⟨#[97]⟩, .string ⟨#[98]⟩, .string ⟨#[99]⟩] 9)).alloc (Obj.cells #[.string ⟨#[120]⟩] 9)).alloc (Obj.cells #[.int .i64 1, .int .i64 1, .slice (some ⟨w4.heap.size + 1, 0, none⟩) 1 1] 52)).heap[w4.heap.size]? = some (.cells #[.string ⟨#[97]⟩, .string ⟨#[98]⟩, .string ⟨#[99]⟩] 9 (0, 0)) := blk_alloc (blk_alloc (heap_alloc_new _ _) _) _
 have hQ : (((w4.alloc (Obj.cells #[.string ⟨#[97]⟩, .string ⟨#[98]⟩, .string ⟨#[99]⟩] 9)).alloc (Obj.cells #[.string ⟨#[120]⟩] 9)).alloc (Obj.cells #[.int .i64 1, .int .i64 1, .slice (some ⟨w4.heap.size + 1, 0, none⟩) 1 1] 52)).heap[w4.heap.size + 1]? = some (.cells #[.string ⟨#[120]⟩] 9 (0, 0)) := by
  have h := heap_alloc_new (w4.alloc (Obj.cells #[.string ⟨#[97]⟩, .string ⟨#[98]⟩, .string ⟨#[99]⟩] 9)) (Obj.cells #[.string ⟨#[120]⟩] 9)
  rw [show (w4.alloc (Obj.cells #[.string ⟨#[97]⟩, .string ⟨#[98]⟩, .string ⟨#[99]⟩] 9)).heap.size = w4.heap.size + 1 from by simp] at h
  exact blk_alloc h _
 have hR : (((w4.alloc (Obj.cells #[.string ⟨#[97]⟩, .string ⟨#[98]⟩, .string ⟨#[99]⟩] 9)).alloc (Obj.cells #[.string ⟨#[120]⟩] 9)).alloc (Obj.cells #[.int .i64 1, .int .i64 1, .slice (some ⟨w4.heap.size + 1, 0, none⟩) 1 1] 52)).heap[w4.heap.size + 1 + 1]? = some (.cells #[.int .i64 1, .int .i64 1, .slice (some ⟨w4.heap.size + 1, 0, none⟩) 1 1] 52 (0, 0)) := by
  have h := heap_alloc_new ((w4.alloc (Obj.cells #[.string ⟨#[97]⟩, .string ⟨#[98]⟩, .string ⟨#[99]⟩] 9)).alloc (Obj.cells #[.string ⟨#[120]⟩] 9)) (Obj.cells #[.int .i64 1, .int .i64 1, .slice (some ⟨w4.heap.size + 1, 0, none⟩) 1 1] 52)
  rwa [show ((w4.alloc (Obj.cells #[.string ⟨#[97]⟩, .string ⟨#[98]⟩, .string ⟨#[99]⟩] 9)).alloc (Obj.cells #[.string ⟨#[120]⟩] 9)).heap.size = w4.heap.size + 1 + 1 from by simp] at h
 have hB8 : Below w.heap.size w (((w4.alloc (Obj.cells #[.string ⟨#[97]⟩, .string ⟨#[98]⟩, .string ⟨#[99]⟩] 9)).alloc (Obj.cells #[.string ⟨#[120]⟩] 9)).alloc (Obj.cells #[.int .i64 1, .int .i64 1, .slice (some ⟨w4.heap.size + 1, 0, none⟩) 1 1] 52)) := below_alloc (below_alloc (below_alloc HB4.out _) _) _
 refine (frame_Apply.calls 30 (some ⟨w4.heap.size, 0, none⟩) 3 [⟨#[97]⟩, ⟨#[98]⟩, ⟨#[99]⟩] (some ⟨w4.heap.size + 1 + 1, 0, none⟩) 1 [⟨1, 1, [⟨#[120]⟩]⟩] _ 0 _ (C_strs _ (by decide) hP) (Nat.le_refl _) (C_eds [⟨1, 1, [⟨#[120]⟩]⟩] [[.int .i64 1, .int .i64 1, .slice (some ⟨w4.heap.size + 1, 0, none⟩) 1 1]] (by decide) rfl hR (fun j h1 h2 => by
  obtain rfl : j = 0 := by simp at h1; omega
  exact k52_mk _ ⟨1, 1, [⟨#[120]⟩]⟩ (Nat.le_refl _) (C_strs [⟨#[120]⟩] (by decide) hQ)) (fun j h2 i u hu => by
  obtain rfl : j = 0 := by simp at h2; omega
  simpa using hu)) (Nat.le_refl _) aw_apply).mono ?_
 rintro e w5 ⟨v5, rfl, hr5, hb5⟩
 obtain ⟨A5, c5, rfl, hc5, hC5⟩ := Kd.R_reads hr5
 have HR5 := Lib.hid (And.intro hc5 hC5)
 have hU : Below w4.heap.size w4 (((w4.alloc (Obj.cells #[.string ⟨#[97]⟩, .string ⟨#[98]⟩, .string ⟨#[99]⟩] 9)).alloc (Obj.cells #[.string ⟨#[120]⟩] 9)).alloc (Obj.cells #[.int .i64 1, .int .i64 1, .slice (some ⟨w4.heap.size + 1, 0, none⟩) 1 1] 52)) := below_alloc (below_alloc (below_alloc (Below.refl _ _) _) _) _
 have HV : Hid (Below w4.heap.size w4 w5) := Lib.hid (below_step hU hb5)
 have HB5 : Hid (Below w.heap.size w w5) := Lib.hid (below_step HB4.out HV.out)
 have HF5 := Lib.hid ((HV.out.block _ (blk_lt HF4.out)).trans HF4.out)
 have HG5 := Lib.hid ((HV.out.block _ (blk_lt HG4.out)).trans HG4.out)
 have HD5 := Lib.hid (Kd.C_below HD2.out HV.out)
 have HR25 := Lib.hid (Kd.C_below HR24.out HV.out)
 have HR35 := Lib.hid (Kd.C_below HR34.out HV.out)
 have HR45 := Lib.hid (Kd.C_below HR4.out.2 HV.out)
 clear hr5 hc5 hC5 hb5 hU hP hQ hR hB8 HV HF4 HG4 HD2 HR24 HR34 HB4 HU
 have f0 : w5.cell? ⟨w.heap.size, 0, none⟩ = some (.int .i64 4) := (blk_cell HF5.out 0).trans rfl
 have ga0 : w5.cell? ⟨g2, 0, none⟩ = some (.int .i64 4) := (blk_cell HG5.out 0).trans rfl
 have f1 : w5.cell? ⟨w.heap.size, 1, none⟩ = some (.int .i64 0) := (blk_cell HF5.out 1).trans rfl
 have ga1 : w5.cell? ⟨g2, 1, none⟩ = some (.int .i64 0) := (blk_cell HG5.out 1).trans rfl
 have f2 : w5.cell? ⟨w.heap.size, 2, none⟩ = some (.int .i64 3) := (blk_cell HF5.out 2).trans rfl
 have ga2 : w5.cell? ⟨g2, 2, none⟩ = some (.int .i64 3) := (blk_cell HG5.out 2).trans rfl
 have f3 : w5.cell? ⟨w.heap.size, 3, none⟩ = some (.int .i64 1) := (blk_cell HF5.out 3).trans rfl
 have ga3 : w5.cell? ⟨g2, 3, none⟩ = some (.int .i64 1) := (blk_cell HG5.out 3).trans rfl
 have f4 : w5.cell? ⟨w.heap.size, 4, none⟩ = some (.int .i64 2) := (blk_cell HF5.out 4).trans rfl
 have ga4 : w5.cell? ⟨g2, 4, none⟩ = some (.int .i64 2) := (blk_cell HG5.out 4).trans rfl
 have f5 : w5.cell? ⟨w.heap.size, 5, none⟩ = some (.slice none 0 0) := (blk_cell HF5.out 5).trans rfl
 have ga5 : w5.cell? ⟨g2, 5, none⟩ = some (.slice A2 0 c2) := (blk_cell HG5.out 5).trans rfl
 have f6 : w5.cell? ⟨w.heap.size, 6, none⟩ = some (.slice none 0 0) := (blk_cell HF5.out 6).trans rfl
 have ga6 : w5.cell? ⟨g2, 6, none⟩ = some (.slice A3 0 c3) := (blk_cell HG5.out 6).trans rfl
 have hlen : ((aw25.length : Int) == 25) = true := by kernel_rfl
 have hq : 21 ≤ c1 := by
  have h1 := HC1.out.1
  have h2 : aw25.length = 25 := by kernel_rfl
  omega
 have hsl : (21 ≤ c1) = True := eq_true hq
 have hsi : ((21 : Int) ≤ (c1 : Int)) = True := eq_true (by omega)
 have hsj : (0 ≤ (c1 : Int)) = True := eq_true (by omega)
 clear hq
 have hcv : (convert 22 9 (.slice A1 21 c1)).run Tryd.prog w5 = .ok (.string (strOfNums aw21)) w5 := by
  have h := Kd.C_take HD5.out (m := 21) (by decide)
  exact Kd.C_string Tryd.underlying22 Tryd.underlying5 Tryd.underlying9 h
 have hst : ((strOfNums aw21).toList == [108, 105, 52, 59, 105, 48, 59, 105, 51, 59, 105, 49, 59, 105, 50, 59, 108, 101, 108, 101, 101]) = true := by kernel_rfl
 go_wp2_with fail
 refine (frame_Equal.calls 1 4 0 3 1 2 none 0 [] none 0 [] 4 0 3 1 2 A2 c2 [] A3 c3 [] true w5 (Kd.C_nil _ _) (Nat.le_refl _) (Kd.C_nil _ _) (Nat.le_refl _) HR25.out HR2.out.1 HR35.out HR3.out.1 aw_eq).mono ?_
 rintro e w6 ⟨rfl, hb6⟩
 have HB6 : Hid (Below w.heap.size w w6) := Lib.hid (below_step HB5.out hb6)
 have HR46 := Lib.hid (Kd.C_below HR45.out hb6)
 have HR56 := Lib.hid (Kd.C_below HR5.out.2 hb6)
 have hc4 := HR4.out.1
 have hc5 := HR5.out.1
 clear hb6 HB5 HF5 HG5 HD5 HR25 HR35 HR45 f0 f1 f2 f3 f4 f5 f6 ga0 ga1 ga2 ga3 ga4 ga5 ga6 hlen hsl hsi hsj hcv hst
 have HH4 := Lib.hid hc4
 have HH5 := Lib.hid hc5
 clear hc4 hc5
 go_wp2_with fail
 have hP : ((w6.alloc (Obj.cells #[.string ⟨#[97]⟩] 9)).alloc (Obj.cells #[.int .i64 0, .int .i64 1, .slice none 0 0, .int .i64 2, .int .i64 0, .slice (some ⟨w6.heap.size, 0, none⟩) 1 1] 52)).heap[w6.heap.size]? = some (.cells #[.string ⟨#[97]⟩] 9 (0, 0)) := blk_alloc (heap_alloc_new _ _) _
 have hR : ((w6.alloc (Obj.cells #[.string ⟨#[97]⟩] 9)).alloc (Obj.cells #[.int .i64 0, .int .i64 1, .slice none 0 0, .int .i64 2, .int .i64 0, .slice (some ⟨w6.heap.size, 0, none⟩) 1 1] 52)).heap[w6.heap.size + 1]? = some (.cells #[.int .i64 0, .int .i64 1, .slice none 0 0, .int .i64 2, .int .i64 0, .slice (some ⟨w6.heap.size, 0, none⟩) 1 1] 52 (0, 0)) := by
  have h := heap_alloc_new (w6.alloc (Obj.cells #[.string ⟨#[97]⟩] 9)) (Obj.cells #[.int .i64 0, .int .i64 1, .slice none 0 0, .int .i64 2, .int .i64 0, .slice (some ⟨w6.heap.size, 0, none⟩) 1 1] 52)
  rwa [show (w6.alloc (Obj.cells #[.string ⟨#[97]⟩] 9)).heap.size = w6.heap.size + 1 from by simp] at h
 have hU6 : Below w6.heap.size w6 ((w6.alloc (Obj.cells #[.string ⟨#[97]⟩] 9)).alloc (Obj.cells #[.int .i64 0, .int .i64 1, .slice none 0 0, .int .i64 2, .int .i64 0, .slice (some ⟨w6.heap.size, 0, none⟩) 1 1] 52)) := below_alloc (below_alloc (Below.refl _ _) _) _
 refine (salchowref49_SameEdits.calls 30 A4 c4 [⟨0, 1, []⟩, ⟨2, 0, [⟨#[97]⟩]⟩] (some ⟨w6.heap.size + 1, 0, none⟩) 2 [⟨0, 1, []⟩, ⟨2, 0, [⟨#[97]⟩]⟩] true _ (Kd.C_below HR46.out hU6) HH4.out (C_eds [⟨0, 1, []⟩, ⟨2, 0, [⟨#[97]⟩]⟩] [[.int .i64 0, .int .i64 1, .slice none 0 0], [.int .i64 2, .int .i64 0, .slice (some ⟨w6.heap.size, 0, none⟩) 1 1]] (by decide) rfl hR (fun j h1 h2 => by
  have h3 : j < 2 := h1
  obtain rfl | rfl : j = 0 ∨ j = 1 := by omega
  ·exact k52_mk _ ⟨0, 1, []⟩ (Nat.le_refl _) (Kd.C_nil _ _)
  ·exact k52_mk _ ⟨2, 0, [⟨#[97]⟩]⟩ (Nat.le_refl _) (C_strs [⟨#[97]⟩] (by decide) hP)) (fun j h2 i u hu => by
  have h3 : j < 2 := h2
  obtain rfl | rfl : j = 0 ∨ j = 1 := by omega
  ·match i, hu with
   | 0, hu => exact hu
   | 1, hu => exact hu
   | 2, hu => exact hu
   | n + 3, hu => simp at hu
  ·match i, hu with
   | 0, hu => exact hu
   | 1, hu => exact hu
   | 2, hu => exact hu
   | n + 3, hu => simp at hu)) (Nat.le_refl _) aw_edits).mono ?_
 rintro e w7 ⟨rfl, hb7⟩
 have hU7 := below_step hU6 hb7
 have HB7 : Hid (Below w.heap.size w w7) := Lib.hid (below_step HB6.out hU7)
 have HR57 := Lib.hid (Kd.C_below HR56.out hU7)
 clear hP hR hU6 hU7 hb7 HB6 HR46 HR56
 go_wp2_with fail
 refine (salchowref49_SameLines.calls 30 A5 c5 [⟨#[97]⟩, ⟨#[120]⟩, ⟨#[99]⟩] (some ⟨w7.heap.size, 0, none⟩) 3 [⟨#[97]⟩, ⟨#[120]⟩, ⟨#[99]⟩] true _ (Kd.C_below HR57.out (below_alloc (Below.refl _ _) _)) HH5.out (C_strs [⟨#[97]⟩, ⟨#[120]⟩, ⟨#[99]⟩] (by decide) (heap_alloc_new _ _)) (Nat.le_refl _) aw_lines).mono ?_
 rintro e w8 ⟨rfl, hd8⟩
 have HB8 : Hid (Below w.heap.size w w8) := Lib.hid (below_step (below_alloc HB7.out _) hd8.below)
 clear hd8 HB7 HR57
 have kc := fun (w : World) (C : Array Value) (n c : Nat) => Lib.run_convert_bytes_const (P := Tryd.prog) w 22 5 C n c Tryd.underlying22 Tryd.underlying5
 go_wp2_with fail
 have hS : (w8.alloc (Obj.cells #[.int .u8 49, .int .u8 50, .int .u8 51, .int .u8 52, .int .u8 53, .int .u8 54, .int .u8 55, .int .u8 56, .int .u8 57] 5 (9, 10))).heap[w8.heap.size]? = some (.cells #[.int .u8 49, .int .u8 50, .int .u8 51, .int .u8 52, .int .u8 53, .int .u8 54, .int .u8 55, .int .u8 56, .int .u8 57] 5 (9, 10)) := heap_alloc_new _ _
 refine (frame_Sum.calls (some ⟨w8.heap.size, 0, none⟩) 9 [49, 50, 51, 52, 53, 54, 55, 56, 57] 10673 (w8.alloc (Obj.cells #[.int .u8 49, .int .u8 50, .int .u8 51, .int .u8 52, .int .u8 53, .int .u8 54, .int .u8 55, .int .u8 56, .int .u8 57] 5 (9, 10))) (C_of_cells (by decide) (fun j hj => by
  rw [cell_of_row _ _ _ _ _ _ hS]
  have h9 : j < 9 := hj
  match j, h9 with
  | 0, _ => rfl
  | 1, _ => rfl
  | 2, _ => rfl
  | 3, _ => rfl
  | 4, _ => rfl
  | 5, _ => rfl
  | 6, _ => rfl
  | 7, _ => rfl
  | 8, _ => rfl)) (Nat.le_refl _) aw_sum).mono ?_
 rintro e w9 ⟨rfl, hb9⟩
 have HB9 : Hid (Below w.heap.size w w9) := Lib.hid (below_step (below_alloc HB8.out _) hb9)
 clear hb9 HB8
 go_wp2_with fail
 go_ret
 exact ⟨rfl, HB9.out⟩
end Go.Proofs.YtfpopmojlmpopaaDoor.H

end
section
namespace Go.Proofs.YtfpopmojlmpopaaDoor.G
open Go.RowKit Go.Proofs.YtfpopmojlmpopaaDoorW.PrintWords Go.Proofs.YtfpopmojlmpopaaDoorW.PrintLast Go.Proofs.YtfpopmojlmpopaaDoorW.PrintMore
attribute [local go_sem] max2_int min2_int max_two min_two max_three min_three max_four min_four
set_option linter.unusedVariables false
set_option linter.unusedSimpArgs false
def salchowlaw49_FrameDiffs.j0 : Nat → List ByteArray → List ByteArray → Bool → Option (Bool)
 | 0, _, _, _ => none
 | k + 1, x0, x1, x16 => if x16 = true then ((Go.Proofs.YtfpopmojlmpopaaDoor.H.salchowlaw49_awake.f).bind fun t235 => (some t235)) else ((Go.Proofs.YtfpopmojlmpopaaDoor.H.frame_Diff.f k x0 x1).bind fun bt236 => ((Go.Proofs.YtfpopmojlmpopaaDoor.H.salchowref49_Diff.f k x0 x1).bind fun bt240 => ((Go.Proofs.YtfpopmojlmpopaaDoor.H.salchowlaw49_awake.f).bind fun t244 => (if t244 = true then (if bt236.2 = bt240.2 then ((salchowref49_SameEdits.f k bt236.1 bt240.1).bind fun t245 => (some t245)) else (some false)) else (some false)))))
def salchowlaw49_FrameDiffs.f (k : Nat) (l0 : List ByteArray) (l1 : List ByteArray) : Option (Bool) := (salchowref49_Few.f k l0).bind fun t233 => (if t233 = true then ((salchowref49_Few.f k l1).bind fun t234 => (salchowlaw49_FrameDiffs.j0 k l0 l1 (!t234))) else (salchowlaw49_FrameDiffs.j0 k l0 l1 true))
set_option maxHeartbeats 8000000 in
set_option maxRecDepth 100000 in
theorem salchowlaw49_FrameDiffs.calls (k : Nat) (A0 : Option Addr) (c0 : Nat) (l0 : List ByteArray) (A1 : Option Addr) (c1 : Nat) (l1 : List ByteArray) (r : Bool) (w : World) (hLd : Go.Proofs.YtfpopmojlmpopaaDoor.H.Laid w) (hr0 : Kd.C Kd.string w A0 l0.length l0) (hc0 : l0.length ≤ c0) (hr1 : Kd.C Kd.string w A1 l1.length l1) (hc1 : l1.length ≤ c1) (h : salchowlaw49_FrameDiffs.f k l0 l1 = some r) :
  Calls Tryd.prog 6 #[.slice A0 l0.length c0, .slice A1 l1.length c1] w fun e w' => e = .returned (.bool r) ∧ Below w.heap.size w w' := by
 have HLd := Aside0.mk hLd
 clear hLd
 have HR0 := Aside0.mk hr0
 have HC0 := Aside0.mk hc0
 clear hr0 hc0
 have HR1 := Aside0.mk hr1
 have HC1 := Aside0.mk hc1
 clear hr1 hc1
 have HB := Aside0.mk (Below.refl w.heap.size w)
 have H : ((salchowref49_Few.f k l0).bind fun t233 => (if t233 = true then ((salchowref49_Few.f k l1).bind fun t234 => (salchowlaw49_FrameDiffs.j0 k l0 l1 (!t234))) else (salchowlaw49_FrameDiffs.j0 k l0 l1 true))) = some r := h
 clear h
 have HC3 := Aside0.mk H
 clear H
 go_enter Tryd.func6, Tryd.ntmps6
 go_upto_region 1 with (fail)
 go_cut [16] (fun v16 wc => ∃ (kq : Nat) (x16_2 : Bool), v16 = .bool x16_2 ∧ Aside0 (salchowlaw49_FrameDiffs.j0 kq l0 l1 x16_2 = some r) ∧ Aside0 (kq ≤ k) ∧ Aside0 (Below w.heap.size w wc))
 case first =>
  have H := HC3.out
  clear HC3
  replace H := Option.bind_eq_some_iff.mp H
  obtain ⟨t233, A40, H⟩ := H
  replace H : (if t233 = true then ((salchowref49_Few.f k l1).bind fun t234 => (salchowlaw49_FrameDiffs.j0 k l0 l1 (!t234))) else (salchowlaw49_FrameDiffs.j0 k l0 l1 true)) = some r := H
  have A4 := Aside0.mk A40
  clear A40
  by_cases c5 : t233 = true
  ·subst c5
   have H1 : ((salchowref49_Few.f k l1).bind fun t234 => (salchowlaw49_FrameDiffs.j0 k l0 l1 (!t234))) = some r := by rw [if_pos rfl] at H; exact H
   clear H
   have H := H1
   clear H1
   replace H := Option.bind_eq_some_iff.mp H
   obtain ⟨t234, A60, H⟩ := H
   replace H : (salchowlaw49_FrameDiffs.j0 k l0 l1 (!t234)) = some r := H
   have A6 := Aside0.mk A60
   clear A60
   have H' := Aside0.mk H
   clear H
   go_wp2_with (first | ((with_reducible refine gate_callee (f := 16) rfl ?_); refine goesL_ (some 10) rfl rfl Tryd.func16 (by kernel_rfl) rfl #[.slice A0 l0.length c0] rfl (by (try simp only [List.map_toArray, List.map_cons, List.map_nil]); first | done | rfl | (simp only [List.length_drop, List.length_take]; rfl)) ?_; (with_reducible refine (salchowref49_Few.calls k _ _ l0 true _ ?side1 ?side2 A4.out).mono ?_); (case side1 => repeat (first | exact (Kd.C_below HR0.out HB.out) | (with_reducible refine Kd.C_alloc ?_ _) | (with_reducible refine Kd.C_drewN ?_ _) | (with_reducible refine Kd.C_drew ?_))); (case side2 => exact HC0.out); rintro e w' ⟨rfl, ⟨nd, rfl⟩⟩; refine ⟨_, rfl, ?_⟩) | (go_at_call 16; (with_reducible refine (salchowref49_Few.calls k _ _ l1 t234 _ ?side1 ?side2 A6.out).mono ?_); (case side1 => repeat (first | exact (Kd.C_below HR1.out (by repeat (first | (with_reducible first | exact HB.out | apply below_alloc | apply pw_below_drewN | apply below_drew1) | exact HB.out))) | (with_reducible refine Kd.C_alloc ?_ _) | (with_reducible refine Kd.C_drewN ?_ _) | (with_reducible refine Kd.C_drew ?_))); (case side2 => exact HC1.out); rintro e w' ⟨rfl, ⟨nd, rfl⟩⟩))
   go_meet
   case rel => exact ⟨_, (!t234), (by first | rfl | (simp; done) | (simp [*]; done)), H', ⟨by first | omega | exact Nat.le_refl _⟩, ⟨by repeat (first | (with_reducible first | exact HB.out | apply below_alloc | apply pw_below_drewN | apply below_drew1) | exact HB.out)⟩⟩
  ·replace c5 := Bool.eq_false_iff.mpr c5
   subst c5
   have H1 : (salchowlaw49_FrameDiffs.j0 k l0 l1 true) = some r := by rw [if_neg (show ¬ (false = true) by decide)] at H; exact H
   clear H
   have H := H1
   clear H1
   have H' := Aside0.mk H
   clear H
   go_wp2_with (first | ((with_reducible refine gate_callee (f := 16) rfl ?_); refine goesL_ (some 10) rfl rfl Tryd.func16 (by kernel_rfl) rfl #[.slice A0 l0.length c0] rfl (by (try simp only [List.map_toArray, List.map_cons, List.map_nil]); first | done | rfl | (simp only [List.length_drop, List.length_take]; rfl)) ?_; (with_reducible refine (salchowref49_Few.calls k _ _ l0 false _ ?side1 ?side2 A4.out).mono ?_); (case side1 => repeat (first | exact (Kd.C_below HR0.out HB.out) | (with_reducible refine Kd.C_alloc ?_ _) | (with_reducible refine Kd.C_drewN ?_ _) | (with_reducible refine Kd.C_drew ?_))); (case side2 => exact HC0.out); rintro e w' ⟨rfl, ⟨nd, rfl⟩⟩; refine ⟨_, rfl, ?_⟩))
   go_meet
   case rel => exact ⟨_, (true), (by first | rfl | (simp; done) | (simp [*]; done)), H', ⟨by first | omega | exact Nat.le_refl _⟩, ⟨by repeat (first | (with_reducible first | exact HB.out | apply below_alloc | apply pw_below_drewN | apply below_drew1) | exact HB.out)⟩⟩
 case rest =>
  clear HC3
  try clear c1
  try clear p2
  try clear c5
  try clear c6
  obtain ⟨kq, x16_2, rfl, HA, HJ2, HB⟩ := hcut
  cases kq with
  | zero => exact absurd HA.out (by simp [salchowlaw49_FrameDiffs.j0])
  | succ kj2 =>
   have H := HA.out
   clear HA
   simp only [salchowlaw49_FrameDiffs.j0] at H
   by_cases c7 : x16_2 = true
   ·subst c7
    have H1 : ((Go.Proofs.YtfpopmojlmpopaaDoor.H.salchowlaw49_awake.f).bind fun t235 => (some t235)) = some r := by rw [if_pos rfl] at H; exact H
    clear H
    have H := H1
    clear H1
    replace H := Option.bind_eq_some_iff.mp H
    obtain ⟨t235, A80, H⟩ := H
    replace H : (some t235) = some r := H
    have A8 := Aside0.mk A80
    clear A80
    obtain rfl := Option.some.inj H
    go_wp2_with (first | ((with_reducible refine gate_callee (f := 10) rfl ?_); refine goesL_ (some 17) rfl rfl Tryd.func10 (by kernel_rfl) rfl #[] rfl (by (try simp only [List.map_toArray, List.map_cons, List.map_nil]); first | done | rfl | (simp only [List.length_drop, List.length_take]; rfl)) ?_; (with_reducible refine (Go.Proofs.YtfpopmojlmpopaaDoor.H.salchowlaw49_awake.calls  t235 _ ?side1 A8.out).mono ?_); (case side1 => exact Go.Proofs.YtfpopmojlmpopaaDoor.H.Laid.below HLd.out (by repeat (first | (with_reducible first | exact HB.out | apply below_alloc | apply pw_below_drewN | apply below_drew1) | exact HB.out))); rintro e w9 ⟨rfl, hb⟩; refine ⟨_, rfl, ?_⟩; have n0_ := Aside0.mk (below_step (by repeat (first | (with_reducible first | exact HB.out | apply below_alloc | apply pw_below_drewN | apply below_drew1) | exact HB.out)) hb); clear HB; have HB := n0_; clear n0_; (try clear hb); (try clear hb2); (try clear hk); (try clear hi)))
    go_ret
    exact ⟨by first | rfl | (simp [errW_none, errW_some] <;> rfl) | (simp [*, errW_none, errW_some] <;> rfl), by repeat (first | (with_reducible first | exact HB.out | apply below_alloc | apply pw_below_drewN | apply below_drew1) | exact HB.out)⟩
   ·replace c7 := Bool.eq_false_iff.mpr c7
    subst c7
    have H1 : ((Go.Proofs.YtfpopmojlmpopaaDoor.H.frame_Diff.f kj2 l0 l1).bind fun bt236 => ((Go.Proofs.YtfpopmojlmpopaaDoor.H.salchowref49_Diff.f kj2 l0 l1).bind fun bt240 => ((Go.Proofs.YtfpopmojlmpopaaDoor.H.salchowlaw49_awake.f).bind fun t244 => (if t244 = true then (if bt236.2 = bt240.2 then ((salchowref49_SameEdits.f kj2 bt236.1 bt240.1).bind fun t245 => (some t245)) else (some false)) else (some false))))) = some r := by rw [if_neg (show ¬ (false = true) by decide)] at H; exact H
    clear H
    have H := H1
    clear H1
    replace H := Option.bind_eq_some_iff.mp H
    obtain ⟨⟨t236, t237⟩, A100, H⟩ := H
    replace H : ((Go.Proofs.YtfpopmojlmpopaaDoor.H.salchowref49_Diff.f kj2 l0 l1).bind fun bt240 => ((Go.Proofs.YtfpopmojlmpopaaDoor.H.salchowlaw49_awake.f).bind fun t244 => (if t244 = true then (if t237 = bt240.2 then ((salchowref49_SameEdits.f kj2 t236 bt240.1).bind fun t245 => (some t245)) else (some false)) else (some false)))) = some r := H
    have A10 := Aside0.mk A100
    clear A100
    replace H := Option.bind_eq_some_iff.mp H
    obtain ⟨⟨t240, t241⟩, A110, H⟩ := H
    replace H : ((Go.Proofs.YtfpopmojlmpopaaDoor.H.salchowlaw49_awake.f).bind fun t244 => (if t244 = true then (if t237 = t241 then ((salchowref49_SameEdits.f kj2 t236 t240).bind fun t245 => (some t245)) else (some false)) else (some false))) = some r := H
    have A11 := Aside0.mk A110
    clear A110
    replace H := Option.bind_eq_some_iff.mp H
    obtain ⟨t244, A120, H⟩ := H
    replace H : (if t244 = true then (if t237 = t241 then ((salchowref49_SameEdits.f kj2 t236 t240).bind fun t245 => (some t245)) else (some false)) else (some false)) = some r := H
    have A12 := Aside0.mk A120
    clear A120
    by_cases c13 : t244 = true
    ·subst c13
     have H1 : (if t237 = t241 then ((salchowref49_SameEdits.f kj2 t236 t240).bind fun t245 => (some t245)) else (some false)) = some r := by rw [if_pos rfl] at H; exact H
     clear H
     have H := H1
     clear H1
     by_cases c14 : t237 = t241
     ·rw [if_pos c14] at H
      have c14b0 : (t237 == t241) = true := beq_iff_eq.mpr c14
      have c14b1 : (t237 != t241) = false := bne_eq_false_iff_eq.mpr c14
      clear c14
      replace H := Option.bind_eq_some_iff.mp H
      obtain ⟨t245, A150, H⟩ := H
      replace H : (some t245) = some r := H
      have A15 := Aside0.mk A150
      clear A150
      obtain rfl := Option.some.inj H
      go_wp2_with (first | ((with_reducible refine gate_callee (f := 20) rfl ?_); refine goesL_ (some 21) rfl rfl Tryd.func20 (by kernel_rfl) rfl #[.slice A0 l0.length c0, .slice A1 l1.length c1] rfl (by (try simp only [List.map_toArray, List.map_cons, List.map_nil]); first | done | rfl | (simp only [List.length_drop, List.length_take]; rfl)) ?_; (with_reducible refine (Go.Proofs.YtfpopmojlmpopaaDoor.H.frame_Diff.calls kj2 _ _ l0 _ _ l1 t236 t237 _ ?side1 ?side2 ?side3 ?side4 A10.out).mono ?_); (case side1 => repeat (first | exact (Kd.C_below HR0.out HB.out) | (with_reducible refine Kd.C_alloc ?_ _) | (with_reducible refine Kd.C_drewN ?_ _) | (with_reducible refine Kd.C_drew ?_))); (case side2 => exact HC0.out); (case side3 => repeat (first | exact (Kd.C_below HR1.out HB.out) | (with_reducible refine Kd.C_alloc ?_ _) | (with_reducible refine Kd.C_drewN ?_ _) | (with_reducible refine Kd.C_drew ?_))); (case side4 => exact HC1.out); rintro e w16 ⟨v238, rfl, ho0, hb⟩; refine ⟨_, rfl, ?_⟩; have n0_ := Aside0.mk (Kd.S_lower ho0 (below_size (by repeat (first | (with_reducible first | exact HB.out | apply below_alloc | apply pw_below_drewN | apply below_drew1) | exact HB.out)))); have n1_ := Aside0.mk (below_step (by repeat (first | (with_reducible first | exact HB.out | apply below_alloc | apply pw_below_drewN | apply below_drew1) | exact HB.out)) hb); clear HB; have HO239 := n0_; have HB := n1_; clear n0_ n1_; (try clear hb); (try clear hb2); (try clear hk); (try clear hi); (try clear ho0)) | ((with_reducible refine gate_callee (f := 21) rfl ?_); refine goesL_ (some 27) rfl rfl Tryd.func21 (by kernel_rfl) rfl #[.slice A0 l0.length c0, .slice A1 l1.length c1] rfl (by (try simp only [List.map_toArray, List.map_cons, List.map_nil]); first | done | rfl | (simp only [List.length_drop, List.length_take]; rfl)) ?_; (with_reducible refine (Go.Proofs.YtfpopmojlmpopaaDoor.H.salchowref49_Diff.calls kj2 _ _ l0 _ _ l1 t240 t241 _ ?side1 ?side2 ?side3 ?side4 A11.out).mono ?_); (case side1 => repeat (first | exact (Kd.C_below HR0.out HB.out) | (with_reducible refine Kd.C_alloc ?_ _) | (with_reducible refine Kd.C_drewN ?_ _) | (with_reducible refine Kd.C_drew ?_))); (case side2 => exact HC0.out); (case side3 => repeat (first | exact (Kd.C_below HR1.out HB.out) | (with_reducible refine Kd.C_alloc ?_ _) | (with_reducible refine Kd.C_drewN ?_ _) | (with_reducible refine Kd.C_drew ?_))); (case side4 => exact HC1.out); rintro e w17 ⟨v242, rfl, ho0, hb⟩; refine ⟨_, rfl, ?_⟩; have n0_ := Aside0.mk (Kd.S_elder' (by (with_reducible repeat (first | apply Kd.S_alloc | apply Kd.S_drewN | apply Kd.S_drew)); exact HO239.out) (Kd.S_base ho0) hb); have n1_ := Aside0.mk (Kd.S_lower (Kd.S_new' ho0 (Kd.S_lt (by (with_reducible repeat (first | apply Kd.S_alloc | apply Kd.S_drewN | apply Kd.S_drew)); exact HO239.out))) (below_size (by repeat (first | (with_reducible first | exact HB.out | apply below_alloc | apply pw_below_drewN | apply below_drew1) | exact HB.out)))); have n2_ := Aside0.mk (below_step (by repeat (first | (with_reducible first | exact HB.out | apply below_alloc | apply pw_below_drewN | apply below_drew1) | exact HB.out)) hb); clear HO239; clear HB; have HO239 := n0_; have HO243 := n1_; have HB := n2_; clear n0_ n1_ n2_; (try clear hb); (try clear hb2); (try clear hk); (try clear hi); (try clear ho0)) | ((with_reducible refine gate_callee (f := 10) rfl ?_); refine goesL_ (some 30) rfl rfl Tryd.func10 (by kernel_rfl) rfl #[] rfl (by (try simp only [List.map_toArray, List.map_cons, List.map_nil]); first | done | rfl | (simp only [List.length_drop, List.length_take]; rfl)) ?_; (with_reducible refine (Go.Proofs.YtfpopmojlmpopaaDoor.H.salchowlaw49_awake.calls  true _ ?side1 A12.out).mono ?_); (case side1 => exact Go.Proofs.YtfpopmojlmpopaaDoor.H.Laid.below HLd.out (by repeat (first | (with_reducible first | exact HB.out | apply below_alloc | apply pw_below_drewN | apply below_drew1) | exact HB.out))); rintro e w18 ⟨rfl, hb⟩; refine ⟨_, rfl, ?_⟩; have n0_ := Aside0.mk (Kd.S_below (by (with_reducible repeat (first | apply Kd.S_alloc | apply Kd.S_drewN | apply Kd.S_drew)); exact HO239.out) hb); have n1_ := Aside0.mk (Kd.S_below (by (with_reducible repeat (first | apply Kd.S_alloc | apply Kd.S_drewN | apply Kd.S_drew)); exact HO243.out) hb); have n2_ := Aside0.mk (below_step (by repeat (first | (with_reducible first | exact HB.out | apply below_alloc | apply pw_below_drewN | apply below_drew1) | exact HB.out)) hb); clear HO239; clear HO243; clear HB; have HO239 := n0_; have HO243 := n1_; have HB := n2_; clear n0_ n1_ n2_; (try clear hb); (try clear hb2); (try clear hk); (try clear hi); obtain ⟨Ao19, co19, eo19⟩ := Kd.S_slice HO239.out; subst eo19; obtain ⟨Ao20, co20, eo20⟩ := Kd.S_slice HO243.out; subst eo20) | (go_at_call 22; (with_reducible refine (salchowref49_SameEdits.calls kj2 _ _ t236 _ _ t240 t245 _ ?side1 ?side2 ?side3 ?side4 A15.out).mono ?_); (case side1 => repeat (first | exact (Kd.S_reads' HO239.out).2.2 | (with_reducible refine Kd.C_alloc ?_ _) | (with_reducible refine Kd.C_drewN ?_ _) | (with_reducible refine Kd.C_drew ?_))); (case side2 => exact (Kd.S_reads' HO239.out).2.1); (case side3 => repeat (first | exact (Kd.S_reads' HO243.out).2.2 | (with_reducible refine Kd.C_alloc ?_ _) | (with_reducible refine Kd.C_drewN ?_ _) | (with_reducible refine Kd.C_drew ?_))); (case side4 => exact (Kd.S_reads' HO243.out).2.1); rintro e w21 ⟨rfl, hb⟩; have n0_ := Aside0.mk (Kd.S_below (by (with_reducible repeat (first | apply Kd.S_alloc | apply Kd.S_drewN | apply Kd.S_drew)); exact HO239.out) hb); have n1_ := Aside0.mk (Kd.S_below (by (with_reducible repeat (first | apply Kd.S_alloc | apply Kd.S_drewN | apply Kd.S_drew)); exact HO243.out) hb); have n2_ := Aside0.mk (below_step (by repeat (first | (with_reducible first | exact HB.out | apply below_alloc | apply pw_below_drewN | apply below_drew1) | exact HB.out)) hb); clear HO239; clear HO243; clear HB; have HO239 := n0_; have HO243 := n1_; have HB := n2_; clear n0_ n1_ n2_; (try clear hb); (try clear hb2); (try clear hk); (try clear hi)))
      go_ret
      exact ⟨by first | rfl | (simp [errW_none, errW_some] <;> rfl) | (simp [*, errW_none, errW_some] <;> rfl), by repeat (first | (with_reducible first | exact HB.out | apply below_alloc | apply pw_below_drewN | apply below_drew1) | exact HB.out)⟩
     ·rw [if_neg c14] at H
      have c14b0 : (t237 == t241) = false := beq_eq_false_iff_ne.mpr c14
      have c14b1 : (t237 != t241) = true := bne_iff_ne.mpr c14
      obtain rfl := Option.some.inj H
      go_wp2_with (first | ((with_reducible refine gate_callee (f := 20) rfl ?_); refine goesL_ (some 21) rfl rfl Tryd.func20 (by kernel_rfl) rfl #[.slice A0 l0.length c0, .slice A1 l1.length c1] rfl (by (try simp only [List.map_toArray, List.map_cons, List.map_nil]); first | done | rfl | (simp only [List.length_drop, List.length_take]; rfl)) ?_; (with_reducible refine (Go.Proofs.YtfpopmojlmpopaaDoor.H.frame_Diff.calls kj2 _ _ l0 _ _ l1 t236 t237 _ ?side1 ?side2 ?side3 ?side4 A10.out).mono ?_); (case side1 => repeat (first | exact (Kd.C_below HR0.out HB.out) | (with_reducible refine Kd.C_alloc ?_ _) | (with_reducible refine Kd.C_drewN ?_ _) | (with_reducible refine Kd.C_drew ?_))); (case side2 => exact HC0.out); (case side3 => repeat (first | exact (Kd.C_below HR1.out HB.out) | (with_reducible refine Kd.C_alloc ?_ _) | (with_reducible refine Kd.C_drewN ?_ _) | (with_reducible refine Kd.C_drew ?_))); (case side4 => exact HC1.out); rintro e w22 ⟨v238, rfl, ho0, hb⟩; refine ⟨_, rfl, ?_⟩; have n0_ := Aside0.mk (Kd.S_lower ho0 (below_size (by repeat (first | (with_reducible first | exact HB.out | apply below_alloc | apply pw_below_drewN | apply below_drew1) | exact HB.out)))); have n1_ := Aside0.mk (below_step (by repeat (first | (with_reducible first | exact HB.out | apply below_alloc | apply pw_below_drewN | apply below_drew1) | exact HB.out)) hb); clear HB; have HO239 := n0_; have HB := n1_; clear n0_ n1_; (try clear hb); (try clear hb2); (try clear hk); (try clear hi); (try clear ho0)) | ((with_reducible refine gate_callee (f := 21) rfl ?_); refine goesL_ (some 27) rfl rfl Tryd.func21 (by kernel_rfl) rfl #[.slice A0 l0.length c0, .slice A1 l1.length c1] rfl (by (try simp only [List.map_toArray, List.map_cons, List.map_nil]); first | done | rfl | (simp only [List.length_drop, List.length_take]; rfl)) ?_; (with_reducible refine (Go.Proofs.YtfpopmojlmpopaaDoor.H.salchowref49_Diff.calls kj2 _ _ l0 _ _ l1 t240 t241 _ ?side1 ?side2 ?side3 ?side4 A11.out).mono ?_); (case side1 => repeat (first | exact (Kd.C_below HR0.out HB.out) | (with_reducible refine Kd.C_alloc ?_ _) | (with_reducible refine Kd.C_drewN ?_ _) | (with_reducible refine Kd.C_drew ?_))); (case side2 => exact HC0.out); (case side3 => repeat (first | exact (Kd.C_below HR1.out HB.out) | (with_reducible refine Kd.C_alloc ?_ _) | (with_reducible refine Kd.C_drewN ?_ _) | (with_reducible refine Kd.C_drew ?_))); (case side4 => exact HC1.out); rintro e w23 ⟨v242, rfl, ho0, hb⟩; refine ⟨_, rfl, ?_⟩; have n0_ := Aside0.mk (Kd.S_elder' (by (with_reducible repeat (first | apply Kd.S_alloc | apply Kd.S_drewN | apply Kd.S_drew)); exact HO239.out) (Kd.S_base ho0) hb); have n1_ := Aside0.mk (Kd.S_lower (Kd.S_new' ho0 (Kd.S_lt (by (with_reducible repeat (first | apply Kd.S_alloc | apply Kd.S_drewN | apply Kd.S_drew)); exact HO239.out))) (below_size (by repeat (first | (with_reducible first | exact HB.out | apply below_alloc | apply pw_below_drewN | apply below_drew1) | exact HB.out)))); have n2_ := Aside0.mk (below_step (by repeat (first | (with_reducible first | exact HB.out | apply below_alloc | apply pw_below_drewN | apply below_drew1) | exact HB.out)) hb); clear HO239; clear HB; have HO239 := n0_; have HO243 := n1_; have HB := n2_; clear n0_ n1_ n2_; (try clear hb); (try clear hb2); (try clear hk); (try clear hi); (try clear ho0)) | ((with_reducible refine gate_callee (f := 10) rfl ?_); refine goesL_ (some 30) rfl rfl Tryd.func10 (by kernel_rfl) rfl #[] rfl (by (try simp only [List.map_toArray, List.map_cons, List.map_nil]); first | done | rfl | (simp only [List.length_drop, List.length_take]; rfl)) ?_; (with_reducible refine (Go.Proofs.YtfpopmojlmpopaaDoor.H.salchowlaw49_awake.calls  true _ ?side1 A12.out).mono ?_); (case side1 => exact Go.Proofs.YtfpopmojlmpopaaDoor.H.Laid.below HLd.out (by repeat (first | (with_reducible first | exact HB.out | apply below_alloc | apply pw_below_drewN | apply below_drew1) | exact HB.out))); rintro e w24 ⟨rfl, hb⟩; refine ⟨_, rfl, ?_⟩; have n0_ := Aside0.mk (Kd.S_below (by (with_reducible repeat (first | apply Kd.S_alloc | apply Kd.S_drewN | apply Kd.S_drew)); exact HO239.out) hb); have n1_ := Aside0.mk (Kd.S_below (by (with_reducible repeat (first | apply Kd.S_alloc | apply Kd.S_drewN | apply Kd.S_drew)); exact HO243.out) hb); have n2_ := Aside0.mk (below_step (by repeat (first | (with_reducible first | exact HB.out | apply below_alloc | apply pw_below_drewN | apply below_drew1) | exact HB.out)) hb); clear HO239; clear HO243; clear HB; have HO239 := n0_; have HO243 := n1_; have HB := n2_; clear n0_ n1_ n2_; (try clear hb); (try clear hb2); (try clear hk); (try clear hi)))
      go_ret
      exact ⟨by first | rfl | (simp [errW_none, errW_some] <;> rfl) | (simp [*, errW_none, errW_some] <;> rfl), by repeat (first | (with_reducible first | exact HB.out | apply below_alloc | apply pw_below_drewN | apply below_drew1) | exact HB.out)⟩
    ·replace c13 := Bool.eq_false_iff.mpr c13
     subst c13
     have H1 : (some false) = some r := by rw [if_neg (show ¬ (false = true) by decide)] at H; exact H
     clear H
     have H := H1
     clear H1
     obtain rfl := Option.some.inj H
     go_wp2_with (first | ((with_reducible refine gate_callee (f := 20) rfl ?_); refine goesL_ (some 21) rfl rfl Tryd.func20 (by kernel_rfl) rfl #[.slice A0 l0.length c0, .slice A1 l1.length c1] rfl (by (try simp only [List.map_toArray, List.map_cons, List.map_nil]); first | done | rfl | (simp only [List.length_drop, List.length_take]; rfl)) ?_; (with_reducible refine (Go.Proofs.YtfpopmojlmpopaaDoor.H.frame_Diff.calls kj2 _ _ l0 _ _ l1 t236 t237 _ ?side1 ?side2 ?side3 ?side4 A10.out).mono ?_); (case side1 => repeat (first | exact (Kd.C_below HR0.out HB.out) | (with_reducible refine Kd.C_alloc ?_ _) | (with_reducible refine Kd.C_drewN ?_ _) | (with_reducible refine Kd.C_drew ?_))); (case side2 => exact HC0.out); (case side3 => repeat (first | exact (Kd.C_below HR1.out HB.out) | (with_reducible refine Kd.C_alloc ?_ _) | (with_reducible refine Kd.C_drewN ?_ _) | (with_reducible refine Kd.C_drew ?_))); (case side4 => exact HC1.out); rintro e w25 ⟨v238, rfl, ho0, hb⟩; refine ⟨_, rfl, ?_⟩; have n0_ := Aside0.mk (Kd.S_lower ho0 (below_size (by repeat (first | (with_reducible first | exact HB.out | apply below_alloc | apply pw_below_drewN | apply below_drew1) | exact HB.out)))); have n1_ := Aside0.mk (below_step (by repeat (first | (with_reducible first | exact HB.out | apply below_alloc | apply pw_below_drewN | apply below_drew1) | exact HB.out)) hb); clear HB; have HO239 := n0_; have HB := n1_; clear n0_ n1_; (try clear hb); (try clear hb2); (try clear hk); (try clear hi); (try clear ho0)) | ((with_reducible refine gate_callee (f := 21) rfl ?_); refine goesL_ (some 27) rfl rfl Tryd.func21 (by kernel_rfl) rfl #[.slice A0 l0.length c0, .slice A1 l1.length c1] rfl (by (try simp only [List.map_toArray, List.map_cons, List.map_nil]); first | done | rfl | (simp only [List.length_drop, List.length_take]; rfl)) ?_; (with_reducible refine (Go.Proofs.YtfpopmojlmpopaaDoor.H.salchowref49_Diff.calls kj2 _ _ l0 _ _ l1 t240 t241 _ ?side1 ?side2 ?side3 ?side4 A11.out).mono ?_); (case side1 => repeat (first | exact (Kd.C_below HR0.out HB.out) | (with_reducible refine Kd.C_alloc ?_ _) | (with_reducible refine Kd.C_drewN ?_ _) | (with_reducible refine Kd.C_drew ?_))); (case side2 => exact HC0.out); (case side3 => repeat (first | exact (Kd.C_below HR1.out HB.out) | (with_reducible refine Kd.C_alloc ?_ _) | (with_reducible refine Kd.C_drewN ?_ _) | (with_reducible refine Kd.C_drew ?_))); (case side4 => exact HC1.out); rintro e w26 ⟨v242, rfl, ho0, hb⟩; refine ⟨_, rfl, ?_⟩; have n0_ := Aside0.mk (Kd.S_elder' (by (with_reducible repeat (first | apply Kd.S_alloc | apply Kd.S_drewN | apply Kd.S_drew)); exact HO239.out) (Kd.S_base ho0) hb); have n1_ := Aside0.mk (Kd.S_lower (Kd.S_new' ho0 (Kd.S_lt (by (with_reducible repeat (first | apply Kd.S_alloc | apply Kd.S_drewN | apply Kd.S_drew)); exact HO239.out))) (below_size (by repeat (first | (with_reducible first | exact HB.out | apply below_alloc | apply pw_below_drewN | apply below_drew1) | exact HB.out)))); have n2_ := Aside0.mk (below_step (by repeat (first | (with_reducible first | exact HB.out | apply below_alloc | apply pw_below_drewN | apply below_drew1) | exact HB.out)) hb); clear HO239; clear HB; have HO239 := n0_; have HO243 := n1_; have HB := n2_; clear n0_ n1_ n2_; (try clear hb); (try clear hb2); (try clear hk); (try clear hi); (try clear ho0)) | ((with_reducible refine gate_callee (f := 10) rfl ?_); refine goesL_ (some 30) rfl rfl Tryd.func10 (by kernel_rfl) rfl #[] rfl (by (try simp only [List.map_toArray, List.map_cons, List.map_nil]); first | done | rfl | (simp only [List.length_drop, List.length_take]; rfl)) ?_; (with_reducible refine (Go.Proofs.YtfpopmojlmpopaaDoor.H.salchowlaw49_awake.calls  false _ ?side1 A12.out).mono ?_); (case side1 => exact Go.Proofs.YtfpopmojlmpopaaDoor.H.Laid.below HLd.out (by repeat (first | (with_reducible first | exact HB.out | apply below_alloc | apply pw_below_drewN | apply below_drew1) | exact HB.out))); rintro e w27 ⟨rfl, hb⟩; refine ⟨_, rfl, ?_⟩; have n0_ := Aside0.mk (Kd.S_below (by (with_reducible repeat (first | apply Kd.S_alloc | apply Kd.S_drewN | apply Kd.S_drew)); exact HO239.out) hb); have n1_ := Aside0.mk (Kd.S_below (by (with_reducible repeat (first | apply Kd.S_alloc | apply Kd.S_drewN | apply Kd.S_drew)); exact HO243.out) hb); have n2_ := Aside0.mk (below_step (by repeat (first | (with_reducible first | exact HB.out | apply below_alloc | apply pw_below_drewN | apply below_drew1) | exact HB.out)) hb); clear HO239; clear HO243; clear HB; have HO239 := n0_; have HO243 := n1_; have HB := n2_; clear n0_ n1_ n2_; (try clear hb); (try clear hb2); (try clear hk); (try clear hi)))
     go_ret
     exact ⟨by first | rfl | (simp [errW_none, errW_some] <;> rfl) | (simp [*, errW_none, errW_some] <;> rfl), by repeat (first | (with_reducible first | exact HB.out | apply below_alloc | apply pw_below_drewN | apply below_drew1) | exact HB.out)⟩
end Go.Proofs.YtfpopmojlmpopaaDoor.G

end
