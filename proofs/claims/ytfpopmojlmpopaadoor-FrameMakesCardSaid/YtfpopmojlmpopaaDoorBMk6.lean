/-
  Part 6 of the proof: words about memory and rows, functions of the program as Lean functions with the contracts that its code comes to just their answers, and plain lemmas; no conditions of its own.
-/
import Derived.Lib.BufferKept
import Derived.Lib.UnsafeStr
import Derived.Lib.OwnKind
import Derived.Test.YtfpopmojlmpopaaDoorBMk1
import Derived.Test.YtfpopmojlmpopaaDoorBMk5
section
namespace Go.Proofs.YtfpopmojlmpopaaDoor.G
open Go.RowKit Go.Proofs.YtfpopmojlmpopaaDoorW.PrintWords Go.Proofs.YtfpopmojlmpopaaDoorW.PrintLast Go.Proofs.YtfpopmojlmpopaaDoorW.PrintMore
attribute [local go_sem] max2_int min2_int max_two min_two max_three min_three max_four min_four
set_option linter.unusedVariables false
set_option linter.unusedSimpArgs false
def encode_Reader_More.f (s0_0 : ByteArray) (s0_1 : Int) (s0_2 : Int) (s0_3 : Int) : Option (Bool × ByteArray × Int × Int × Int) := if s0_3 = 0 then (if s0_1 < (s0_0.size : Int) then (if s0_2 = 0 then (some (true, s0_0, s0_1, s0_2, s0_3)) else (if 0 ≤ s0_1 then (some (((bt s0_0 s0_1) != 101), s0_0, s0_1, s0_2, s0_3)) else (none))) else (some (false, s0_0, s0_1, s0_2, s0_3))) else (some (false, s0_0, s0_1, s0_2, s0_3))
set_option maxHeartbeats 8000000 in
set_option maxRecDepth 100000 in
theorem encode_Reader_More.calls (g : Nat) (s0_0 : ByteArray) (s0_1 : Int) (s0_2 : Int) (s0_3 : Int) (r1 : Bool) (r2 : ByteArray) (r3 : Int) (r4 : Int) (r5 : Int) (w0 w : World) (hI : IsS88 w0 w g s0_0 s0_1 s0_2 s0_3) (hB : Below w0.heap.size w0 w) (h : encode_Reader_More.f s0_0 s0_1 s0_2 s0_3 = some (r1, r2, r3, r4, r5)) :
  Calls Tryd.prog 39 #[.pointer (some ⟨g, 0, none⟩)] w fun e w' => e = .returned (.bool r1) ∧ IsS88 w0 w' g r2 r3 r4 r5 ∧ Below w0.heap.size w0 w' ∧ KeepBut w w' g none := by
 have HI0 := Aside0.mk hI
 have HK := Aside0.mk (KeepBut.refl w g none)
 have HL := Aside0.mk hB.size
 clear hI
 have HW0 := Aside0.mk hB.size
 have HB := Aside0.mk hB
 clear hB
 have H : (if s0_3 = 0 then (if s0_1 < (s0_0.size : Int) then (if s0_2 = 0 then (some (true, s0_0, s0_1, s0_2, s0_3)) else (if 0 ≤ s0_1 then (some (((bt s0_0 s0_1) != 101), s0_0, s0_1, s0_2, s0_3)) else (none))) else (some (false, s0_0, s0_1, s0_2, s0_3))) else (some (false, s0_0, s0_1, s0_2, s0_3))) = some (r1, r2, r3, r4, r5) := h
 clear h
 by_cases c2 : s0_3 = 0
 ·rw [if_pos c2] at H
  have c2b0 : (s0_3 == 0) = true := beq_iff_eq.mpr c2
  have c2b1 : (s0_3 != 0) = false := bne_eq_false_iff_eq.mpr c2
  clear c2
  by_cases c3 : s0_1 < (s0_0.size : Int)
  ·rw [if_pos c3] at H
   have c3b0 : decide (s0_1 < (s0_0.size : Int)) = true := decide_eq_true c3
   clear c3
   by_cases c4 : s0_2 = 0
   ·rw [if_pos c4] at H
    have c4b0 : (s0_2 == 0) = true := beq_iff_eq.mpr c4
    have c4b1 : (s0_2 != 0) = false := bne_eq_false_iff_eq.mpr c4
    clear c4
    simp only [Option.some.injEq, Prod.mk.injEq] at H
    obtain ⟨rfl, rfl, rfl, rfl, rfl⟩ := H
    obtain ⟨HGz5, hgz5⟩ := HI0.out
    have hcz5_0 := cellS88_0 HGz5
    have hcz5_1 := cellS88_1 HGz5
    have hcz5_2 := cellS88_2 HGz5
    have hcz5_3 := cellS88_3 HGz5
    have hfz5_0 := blk_frozen HGz5 0
    have hfz5_1 := blk_frozen HGz5 1
    have hfz5_2 := blk_frozen HGz5 2
    have hfz5_3 := blk_frozen HGz5 3
    clear HGz5 hgz5
    go_enter Tryd.func39, Tryd.ntmps39
    go_wp2
    repeat (go_quiet (fail); try go_wp2)
    go_ret
    exact ⟨by first | rfl | (simp [errW_none, errW_some] <;> rfl) | (simp [*, errW_none, errW_some] <;> rfl), by repeat (first | (with_reducible first | exact HI0.out | apply IsS88.alloc | apply IsS88.drewN | apply IsS88.drew | apply IsS88.set_0 | apply IsS88.set_1 | apply IsS88.set_2 | apply IsS88.set_3) | exact HI0.out), by repeat (first | (with_reducible first | exact HB.out | apply below_alloc | apply pw_below_drewN | apply below_drew1 | refine below_set ?_ (IsS88.ge HI0.out)) | exact HB.out), by repeat (first | (with_reducible first | exact HK.out | apply KeepBut.set_ | apply keep_drewN | apply keep_drew | apply keep_alloc) | exact HK.out)⟩
   ·rw [if_neg c4] at H
    have c4b0 : (s0_2 == 0) = false := beq_eq_false_iff_ne.mpr c4
    have c4b1 : (s0_2 != 0) = true := bne_iff_ne.mpr c4
    by_cases c6 : 0 ≤ s0_1
    ·rw [if_pos c6] at H
     have c6b0 : decide (0 ≤ s0_1) = true := decide_eq_true c6
     clear c6
     simp only [Option.some.injEq, Prod.mk.injEq] at H
     obtain ⟨rfl, rfl, rfl, rfl, rfl⟩ := H
     obtain ⟨HGz8, hgz8⟩ := HI0.out
     have hcz8_0 := cellS88_0 HGz8
     have hcz8_1 := cellS88_1 HGz8
     have hcz8_2 := cellS88_2 HGz8
     have hcz8_3 := cellS88_3 HGz8
     have hfz8_0 := blk_frozen HGz8 0
     have hfz8_1 := blk_frozen HGz8 1
     have hfz8_2 := blk_frozen HGz8 2
     have hfz8_3 := blk_frozen HGz8 3
     clear HGz8 hgz8
     have p7 : 0 ≤ (s0_1 : Int) := of_decide_eq_true (by first | (with_reducible assumption) | assumption)
     have q7 : s0_1 < (s0_0.size : Int) := of_decide_eq_true (by first | (with_reducible assumption) | assumption)
     have hx7 := bt_at s0_0 s0_1
     replace p7 := eq_true p7
     replace q7 := eq_true q7
     go_enter Tryd.func39, Tryd.ntmps39
     go_wp2
     repeat (go_quiet (fail); try go_wp2)
     go_ret
     exact ⟨by first | rfl | (simp [errW_none, errW_some] <;> rfl) | (simp [*, errW_none, errW_some] <;> rfl), by repeat (first | (with_reducible first | exact HI0.out | apply IsS88.alloc | apply IsS88.drewN | apply IsS88.drew | apply IsS88.set_0 | apply IsS88.set_1 | apply IsS88.set_2 | apply IsS88.set_3) | exact HI0.out), by repeat (first | (with_reducible first | exact HB.out | apply below_alloc | apply pw_below_drewN | apply below_drew1 | refine below_set ?_ (IsS88.ge HI0.out)) | exact HB.out), by repeat (first | (with_reducible first | exact HK.out | apply KeepBut.set_ | apply keep_drewN | apply keep_drew | apply keep_alloc) | exact HK.out)⟩
    ·rw [if_neg c6] at H
     exact absurd H (by simp)
  ·rw [if_neg c3] at H
   have c3b0 : decide (s0_1 < (s0_0.size : Int)) = false := decide_eq_false c3
   clear c3
   simp only [Option.some.injEq, Prod.mk.injEq] at H
   obtain ⟨rfl, rfl, rfl, rfl, rfl⟩ := H
   obtain ⟨HGz9, hgz9⟩ := HI0.out
   have hcz9_0 := cellS88_0 HGz9
   have hcz9_1 := cellS88_1 HGz9
   have hcz9_2 := cellS88_2 HGz9
   have hcz9_3 := cellS88_3 HGz9
   have hfz9_0 := blk_frozen HGz9 0
   have hfz9_1 := blk_frozen HGz9 1
   have hfz9_2 := blk_frozen HGz9 2
   have hfz9_3 := blk_frozen HGz9 3
   clear HGz9 hgz9
   go_enter Tryd.func39, Tryd.ntmps39
   go_wp2
   repeat (go_quiet (fail); try go_wp2)
   go_ret
   exact ⟨by first | rfl | (simp [errW_none, errW_some] <;> rfl) | (simp [*, errW_none, errW_some] <;> rfl), by repeat (first | (with_reducible first | exact HI0.out | apply IsS88.alloc | apply IsS88.drewN | apply IsS88.drew | apply IsS88.set_0 | apply IsS88.set_1 | apply IsS88.set_2 | apply IsS88.set_3) | exact HI0.out), by repeat (first | (with_reducible first | exact HB.out | apply below_alloc | apply pw_below_drewN | apply below_drew1 | refine below_set ?_ (IsS88.ge HI0.out)) | exact HB.out), by repeat (first | (with_reducible first | exact HK.out | apply KeepBut.set_ | apply keep_drewN | apply keep_drew | apply keep_alloc) | exact HK.out)⟩
 ·rw [if_neg c2] at H
  have c2b0 : (s0_3 == 0) = false := beq_eq_false_iff_ne.mpr c2
  have c2b1 : (s0_3 != 0) = true := bne_iff_ne.mpr c2
  simp only [Option.some.injEq, Prod.mk.injEq] at H
  obtain ⟨rfl, rfl, rfl, rfl, rfl⟩ := H
  obtain ⟨HGz10, hgz10⟩ := HI0.out
  have hcz10_0 := cellS88_0 HGz10
  have hcz10_1 := cellS88_1 HGz10
  have hcz10_2 := cellS88_2 HGz10
  have hcz10_3 := cellS88_3 HGz10
  have hfz10_0 := blk_frozen HGz10 0
  have hfz10_1 := blk_frozen HGz10 1
  have hfz10_2 := blk_frozen HGz10 2
  have hfz10_3 := blk_frozen HGz10 3
  clear HGz10 hgz10
  go_enter Tryd.func39, Tryd.ntmps39
  go_wp2
  repeat (go_quiet (fail); try go_wp2)
  go_ret
  exact ⟨by first | rfl | (simp [errW_none, errW_some] <;> rfl) | (simp [*, errW_none, errW_some] <;> rfl), by repeat (first | (with_reducible first | exact HI0.out | apply IsS88.alloc | apply IsS88.drewN | apply IsS88.drew | apply IsS88.set_0 | apply IsS88.set_1 | apply IsS88.set_2 | apply IsS88.set_3) | exact HI0.out), by repeat (first | (with_reducible first | exact HB.out | apply below_alloc | apply pw_below_drewN | apply below_drew1 | refine below_set ?_ (IsS88.ge HI0.out)) | exact HB.out), by repeat (first | (with_reducible first | exact HK.out | apply KeepBut.set_ | apply keep_drewN | apply keep_drew | apply keep_alloc) | exact HK.out)⟩
def encode_Reader_Err.f (s0_0 : ByteArray) (s0_1 : Int) (s0_2 : Int) (s0_3 : Int) : Option (Int × ByteArray × Int × Int × Int) := some (s0_3, s0_0, s0_1, s0_2, s0_3)
set_option maxHeartbeats 8000000 in
set_option maxRecDepth 100000 in
theorem encode_Reader_Err.calls (g : Nat) (s0_0 : ByteArray) (s0_1 : Int) (s0_2 : Int) (s0_3 : Int) (r1 : Int) (r2 : ByteArray) (r3 : Int) (r4 : Int) (r5 : Int) (w0 w : World) (hI : IsS88 w0 w g s0_0 s0_1 s0_2 s0_3) (hB : Below w0.heap.size w0 w) (h : encode_Reader_Err.f s0_0 s0_1 s0_2 s0_3 = some (r1, r2, r3, r4, r5)) :
  Calls Tryd.prog 40 #[.pointer (some ⟨g, 0, none⟩)] w fun e w' => e = .returned (.int .i64 r1) ∧ IsS88 w0 w' g r2 r3 r4 r5 ∧ Below w0.heap.size w0 w' ∧ KeepBut w w' g none := by
 have HI0 := Aside0.mk hI
 have HK := Aside0.mk (KeepBut.refl w g none)
 have HL := Aside0.mk hB.size
 clear hI
 have HW0 := Aside0.mk hB.size
 have HB := Aside0.mk hB
 clear hB
 have H : (some (s0_3, s0_0, s0_1, s0_2, s0_3)) = some (r1, r2, r3, r4, r5) := h
 clear h
 simp only [Option.some.injEq, Prod.mk.injEq] at H
 obtain ⟨rfl, rfl, rfl, rfl, rfl⟩ := H
 obtain ⟨HGz2, hgz2⟩ := HI0.out
 have hcz2_0 := cellS88_0 HGz2
 have hcz2_1 := cellS88_1 HGz2
 have hcz2_2 := cellS88_2 HGz2
 have hcz2_3 := cellS88_3 HGz2
 have hfz2_0 := blk_frozen HGz2 0
 have hfz2_1 := blk_frozen HGz2 1
 have hfz2_2 := blk_frozen HGz2 2
 have hfz2_3 := blk_frozen HGz2 3
 clear HGz2 hgz2
 go_enter Tryd.func40, Tryd.ntmps40
 go_wp2
 go_ret
 exact ⟨by first | rfl | (simp [errW_none, errW_some] <;> rfl) | (simp [*, errW_none, errW_some] <;> rfl), by repeat (first | (with_reducible first | exact HI0.out | apply IsS88.alloc | apply IsS88.drewN | apply IsS88.drew | apply IsS88.set_0 | apply IsS88.set_1 | apply IsS88.set_2 | apply IsS88.set_3) | exact HI0.out), by repeat (first | (with_reducible first | exact HB.out | apply below_alloc | apply pw_below_drewN | apply below_drew1 | refine below_set ?_ (IsS88.ge HI0.out)) | exact HB.out), by repeat (first | (with_reducible first | exact HK.out | apply KeepBut.set_ | apply keep_drewN | apply keep_drew | apply keep_alloc) | exact HK.out)⟩
def encode_Reader_Close.f (s0_0 : ByteArray) (s0_1 : Int) (s0_2 : Int) (s0_3 : Int) : Option (ByteArray × Int × Int × Int) := (encode_Reader_head.f s0_0 s0_1 s0_2 s0_3 101 (decide (s0_2 > 0)) (-1)).bind fun bt336 => (some (bt336.1, bt336.2.1, bt336.2.2.1, bt336.2.2.2))
set_option maxHeartbeats 8000000 in
set_option maxRecDepth 100000 in
theorem encode_Reader_Close.calls (g : Nat) (s0_0 : ByteArray) (s0_1 : Int) (s0_2 : Int) (s0_3 : Int) (r1 : ByteArray) (r2 : Int) (r3 : Int) (r4 : Int) (w0 w : World) (hI : IsS88 w0 w g s0_0 s0_1 s0_2 s0_3) (hB : Below w0.heap.size w0 w) (h : encode_Reader_Close.f s0_0 s0_1 s0_2 s0_3 = some (r1, r2, r3, r4)) :
  Calls Tryd.prog 41 #[.pointer (some ⟨g, 0, none⟩)] w fun e w' => e = .returned (.tuple #[]) ∧ IsS88 w0 w' g r1 r2 r3 r4 ∧ Below w0.heap.size w0 w' ∧ KeepBut w w' g none := by
 have HI0 := Aside0.mk hI
 have HK := Aside0.mk (KeepBut.refl w g none)
 have HL := Aside0.mk hB.size
 clear hI
 have HW0 := Aside0.mk hB.size
 have HB := Aside0.mk hB
 clear hB
 have H : ((encode_Reader_head.f s0_0 s0_1 s0_2 s0_3 101 (decide (s0_2 > 0)) (-1)).bind fun bt336 => (some (bt336.1, bt336.2.1, bt336.2.2.1, bt336.2.2.2))) = some (r1, r2, r3, r4) := h
 clear h
 replace H := Option.bind_eq_some_iff.mp H
 obtain ⟨⟨t336, t337, t338, t339⟩, A20, H⟩ := H
 replace H : (some (t336, t337, t338, t339)) = some (r1, r2, r3, r4) := H
 have A2 := Aside0.mk A20
 clear A20
 simp only [Option.some.injEq, Prod.mk.injEq] at H
 obtain ⟨rfl, rfl, rfl, rfl⟩ := H
 obtain ⟨HGz3, hgz3⟩ := HI0.out
 have hcz3_0 := cellS88_0 HGz3
 have hcz3_1 := cellS88_1 HGz3
 have hcz3_2 := cellS88_2 HGz3
 have hcz3_3 := cellS88_3 HGz3
 have hfz3_0 := blk_frozen HGz3 0
 have hfz3_1 := blk_frozen HGz3 1
 have hfz3_2 := blk_frozen HGz3 2
 have hfz3_3 := blk_frozen HGz3 3
 clear HGz3 hgz3
 go_enter Tryd.func41, Tryd.ntmps41
 go_wp2_with (first | ((with_reducible refine gate_callee (f := 56) rfl ?_); refine goesL_ (some 8) rfl rfl Tryd.func56 (by kernel_rfl) rfl #[.pointer (some ⟨g, 0, none⟩), .int .u8 101, .bool (decide (s0_2 > 0)), .int .i64 (-1)] rfl (by (try simp only [List.map_toArray, List.map_cons, List.map_nil]); first | done | rfl | (simp only [List.length_drop, List.length_take]; rfl)) ?_; (with_reducible refine (encode_Reader_head.calls g s0_0 s0_1 s0_2 s0_3 101 (decide (s0_2 > 0)) (-1) t336 t337 t338 t339 w0 _ ?side1 ?side2 A2.out).mono ?_); (case side1 => repeat (first | (with_reducible first | exact HI0.out | apply IsS88.alloc | apply IsS88.drewN | apply IsS88.drew | apply IsS88.set_0 | apply IsS88.set_1 | apply IsS88.set_2 | apply IsS88.set_3) | exact HI0.out)); (case side2 => repeat (first | (with_reducible first | exact HB.out | apply below_alloc | apply pw_below_drewN | apply below_drew1 | refine below_set ?_ (IsS88.ge HI0.out)) | exact HB.out)); rintro e w4 ⟨rfl, hi, hb, hk⟩; refine ⟨_, rfl, ?_⟩; have n0_ := Aside0.mk (KeepBut.trans (by repeat (first | (with_reducible first | exact HK.out | apply KeepBut.set_ | apply keep_drewN | apply keep_drew | apply keep_alloc) | exact HK.out)) hk (.inl rfl)); have n1_ := Aside0.mk (hb); have n2_ := Aside0.mk (hi); clear HK; clear HB; clear HI0; have HK := n0_; have HB := n1_; have HI0 := n2_; clear n0_ n1_ n2_; (try clear hb); (try clear hb2); (try clear hk); (try clear hi)))
 first | go_end0 | ((try simp only [Exit.inBlock, Exit.then]); refine bodyPost_ret (results_none rfl _ _ _) rfl ?_)
 exact ⟨by first | rfl | (simp [errW_none, errW_some] <;> rfl) | (simp [*, errW_none, errW_some] <;> rfl), by repeat (first | (with_reducible first | exact HI0.out | apply IsS88.alloc | apply IsS88.drewN | apply IsS88.drew | apply IsS88.set_0 | apply IsS88.set_1 | apply IsS88.set_2 | apply IsS88.set_3) | exact HI0.out), by repeat (first | (with_reducible first | exact HB.out | apply below_alloc | apply pw_below_drewN | apply below_drew1 | refine below_set ?_ (IsS88.ge HI0.out)) | exact HB.out), by repeat (first | (with_reducible first | exact HK.out | apply KeepBut.set_ | apply keep_drewN | apply keep_drew | apply keep_alloc) | exact HK.out)⟩
def encode_Reader_End.f (s0_0 : ByteArray) (s0_1 : Int) (s0_2 : Int) (s0_3 : Int) : Option (Int × ByteArray × Int × Int × Int) := if s0_3 = 0 then (if s0_1 = (s0_0.size : Int) then (if s0_2 > 0 then (some (2, s0_0, s0_1, s0_2, s0_3)) else (some (s0_3, s0_0, s0_1, s0_2, s0_3))) else (some (2, s0_0, s0_1, s0_2, s0_3))) else (some (s0_3, s0_0, s0_1, s0_2, s0_3))
set_option maxHeartbeats 8000000 in
set_option maxRecDepth 100000 in
theorem encode_Reader_End.calls (g : Nat) (s0_0 : ByteArray) (s0_1 : Int) (s0_2 : Int) (s0_3 : Int) (r1 : Int) (r2 : ByteArray) (r3 : Int) (r4 : Int) (r5 : Int) (w0 w : World) (hI : IsS88 w0 w g s0_0 s0_1 s0_2 s0_3) (hB : Below w0.heap.size w0 w) (h : encode_Reader_End.f s0_0 s0_1 s0_2 s0_3 = some (r1, r2, r3, r4, r5)) :
  Calls Tryd.prog 42 #[.pointer (some ⟨g, 0, none⟩)] w fun e w' => e = .returned (.int .i64 r1) ∧ IsS88 w0 w' g r2 r3 r4 r5 ∧ Below w0.heap.size w0 w' ∧ KeepBut w w' g none := by
 have HI0 := Aside0.mk hI
 have HK := Aside0.mk (KeepBut.refl w g none)
 have HL := Aside0.mk hB.size
 clear hI
 have HW0 := Aside0.mk hB.size
 have HB := Aside0.mk hB
 clear hB
 have H : (if s0_3 = 0 then (if s0_1 = (s0_0.size : Int) then (if s0_2 > 0 then (some (2, s0_0, s0_1, s0_2, s0_3)) else (some (s0_3, s0_0, s0_1, s0_2, s0_3))) else (some (2, s0_0, s0_1, s0_2, s0_3))) else (some (s0_3, s0_0, s0_1, s0_2, s0_3))) = some (r1, r2, r3, r4, r5) := h
 clear h
 by_cases c2 : s0_3 = 0
 ·rw [if_pos c2] at H
  have c2b0 : (s0_3 == 0) = true := beq_iff_eq.mpr c2
  have c2b1 : (s0_3 != 0) = false := bne_eq_false_iff_eq.mpr c2
  clear c2
  by_cases c3 : s0_1 = (s0_0.size : Int)
  ·rw [if_pos c3] at H
   have c3b0 : (s0_1 == (s0_0.size : Int)) = true := beq_iff_eq.mpr c3
   have c3b1 : (s0_1 != (s0_0.size : Int)) = false := bne_eq_false_iff_eq.mpr c3
   clear c3
   by_cases c4 : s0_2 > 0
   ·rw [if_pos c4] at H
    have c4b0 : decide (0 < s0_2) = true := decide_eq_true c4
    clear c4
    simp only [Option.some.injEq, Prod.mk.injEq] at H
    obtain ⟨rfl, rfl, rfl, rfl, rfl⟩ := H
    obtain ⟨HGz5, hgz5⟩ := HI0.out
    have hcz5_0 := cellS88_0 HGz5
    have hcz5_1 := cellS88_1 HGz5
    have hcz5_2 := cellS88_2 HGz5
    have hcz5_3 := cellS88_3 HGz5
    have hfz5_0 := blk_frozen HGz5 0
    have hfz5_1 := blk_frozen HGz5 1
    have hfz5_2 := blk_frozen HGz5 2
    have hfz5_3 := blk_frozen HGz5 3
    clear HGz5 hgz5
    go_enter Tryd.func42, Tryd.ntmps42
    go_wp2
    repeat (go_quiet (fail); try go_wp2)
    go_ret
    exact ⟨by first | rfl | (simp [errW_none, errW_some] <;> rfl) | (simp [*, errW_none, errW_some] <;> rfl), by repeat (first | (with_reducible first | exact HI0.out | apply IsS88.alloc | apply IsS88.drewN | apply IsS88.drew | apply IsS88.set_0 | apply IsS88.set_1 | apply IsS88.set_2 | apply IsS88.set_3) | exact HI0.out), by repeat (first | (with_reducible first | exact HB.out | apply below_alloc | apply pw_below_drewN | apply below_drew1 | refine below_set ?_ (IsS88.ge HI0.out)) | exact HB.out), by repeat (first | (with_reducible first | exact HK.out | apply KeepBut.set_ | apply keep_drewN | apply keep_drew | apply keep_alloc) | exact HK.out)⟩
   ·rw [if_neg c4] at H
    have c4b0 : decide (0 < s0_2) = false := decide_eq_false c4
    clear c4
    simp only [Option.some.injEq, Prod.mk.injEq] at H
    obtain ⟨rfl, rfl, rfl, rfl, rfl⟩ := H
    obtain ⟨HGz6, hgz6⟩ := HI0.out
    have hcz6_0 := cellS88_0 HGz6
    have hcz6_1 := cellS88_1 HGz6
    have hcz6_2 := cellS88_2 HGz6
    have hcz6_3 := cellS88_3 HGz6
    have hfz6_0 := blk_frozen HGz6 0
    have hfz6_1 := blk_frozen HGz6 1
    have hfz6_2 := blk_frozen HGz6 2
    have hfz6_3 := blk_frozen HGz6 3
    clear HGz6 hgz6
    go_enter Tryd.func42, Tryd.ntmps42
    go_wp2
    repeat (go_quiet (fail); try go_wp2)
    go_ret
    exact ⟨by first | rfl | (simp [errW_none, errW_some] <;> rfl) | (simp [*, errW_none, errW_some] <;> rfl), by repeat (first | (with_reducible first | exact HI0.out | apply IsS88.alloc | apply IsS88.drewN | apply IsS88.drew | apply IsS88.set_0 | apply IsS88.set_1 | apply IsS88.set_2 | apply IsS88.set_3) | exact HI0.out), by repeat (first | (with_reducible first | exact HB.out | apply below_alloc | apply pw_below_drewN | apply below_drew1 | refine below_set ?_ (IsS88.ge HI0.out)) | exact HB.out), by repeat (first | (with_reducible first | exact HK.out | apply KeepBut.set_ | apply keep_drewN | apply keep_drew | apply keep_alloc) | exact HK.out)⟩
  ·rw [if_neg c3] at H
   have c3b0 : (s0_1 == (s0_0.size : Int)) = false := beq_eq_false_iff_ne.mpr c3
   have c3b1 : (s0_1 != (s0_0.size : Int)) = true := bne_iff_ne.mpr c3
   simp only [Option.some.injEq, Prod.mk.injEq] at H
   obtain ⟨rfl, rfl, rfl, rfl, rfl⟩ := H
   obtain ⟨HGz7, hgz7⟩ := HI0.out
   have hcz7_0 := cellS88_0 HGz7
   have hcz7_1 := cellS88_1 HGz7
   have hcz7_2 := cellS88_2 HGz7
   have hcz7_3 := cellS88_3 HGz7
   have hfz7_0 := blk_frozen HGz7 0
   have hfz7_1 := blk_frozen HGz7 1
   have hfz7_2 := blk_frozen HGz7 2
   have hfz7_3 := blk_frozen HGz7 3
   clear HGz7 hgz7
   go_enter Tryd.func42, Tryd.ntmps42
   go_wp2
   repeat (go_quiet (fail); try go_wp2)
   go_ret
   exact ⟨by first | rfl | (simp [errW_none, errW_some] <;> rfl) | (simp [*, errW_none, errW_some] <;> rfl), by repeat (first | (with_reducible first | exact HI0.out | apply IsS88.alloc | apply IsS88.drewN | apply IsS88.drew | apply IsS88.set_0 | apply IsS88.set_1 | apply IsS88.set_2 | apply IsS88.set_3) | exact HI0.out), by repeat (first | (with_reducible first | exact HB.out | apply below_alloc | apply pw_below_drewN | apply below_drew1 | refine below_set ?_ (IsS88.ge HI0.out)) | exact HB.out), by repeat (first | (with_reducible first | exact HK.out | apply KeepBut.set_ | apply keep_drewN | apply keep_drew | apply keep_alloc) | exact HK.out)⟩
 ·rw [if_neg c2] at H
  have c2b0 : (s0_3 == 0) = false := beq_eq_false_iff_ne.mpr c2
  have c2b1 : (s0_3 != 0) = true := bne_iff_ne.mpr c2
  simp only [Option.some.injEq, Prod.mk.injEq] at H
  obtain ⟨rfl, rfl, rfl, rfl, rfl⟩ := H
  obtain ⟨HGz8, hgz8⟩ := HI0.out
  have hcz8_0 := cellS88_0 HGz8
  have hcz8_1 := cellS88_1 HGz8
  have hcz8_2 := cellS88_2 HGz8
  have hcz8_3 := cellS88_3 HGz8
  have hfz8_0 := blk_frozen HGz8 0
  have hfz8_1 := blk_frozen HGz8 1
  have hfz8_2 := blk_frozen HGz8 2
  have hfz8_3 := blk_frozen HGz8 3
  clear HGz8 hgz8
  go_enter Tryd.func42, Tryd.ntmps42
  go_wp2
  repeat (go_quiet (fail); try go_wp2)
  go_ret
  exact ⟨by first | rfl | (simp [errW_none, errW_some] <;> rfl) | (simp [*, errW_none, errW_some] <;> rfl), by repeat (first | (with_reducible first | exact HI0.out | apply IsS88.alloc | apply IsS88.drewN | apply IsS88.drew | apply IsS88.set_0 | apply IsS88.set_1 | apply IsS88.set_2 | apply IsS88.set_3) | exact HI0.out), by repeat (first | (with_reducible first | exact HB.out | apply below_alloc | apply pw_below_drewN | apply below_drew1 | refine below_set ?_ (IsS88.ge HI0.out)) | exact HB.out), by repeat (first | (with_reducible first | exact HK.out | apply KeepBut.set_ | apply keep_drewN | apply keep_drew | apply keep_alloc) | exact HK.out)⟩
def encode_Reader_move.f (s0_0 : ByteArray) (s0_1 : Int) (s0_2 : Int) (s0_3 : Int) (a1 : Int) : Option (ByteArray × Int × Int × Int) := if a1 < 0 then ((encode_Reader_Fail.f s0_0 s0_1 s0_2 s0_3).bind fun bt340 => (some (bt340.1, bt340.2.1, bt340.2.2.1, bt340.2.2.2))) else (some (s0_0, a1, s0_2, s0_3))
set_option maxHeartbeats 8000000 in
set_option maxRecDepth 100000 in
theorem encode_Reader_move.calls (g : Nat) (s0_0 : ByteArray) (s0_1 : Int) (s0_2 : Int) (s0_3 : Int) (a1 : Int) (r1 : ByteArray) (r2 : Int) (r3 : Int) (r4 : Int) (w0 w : World) (hI : IsS88 w0 w g s0_0 s0_1 s0_2 s0_3) (hB : Below w0.heap.size w0 w) (h : encode_Reader_move.f s0_0 s0_1 s0_2 s0_3 a1 = some (r1, r2, r3, r4)) :
  Calls Tryd.prog 58 #[.pointer (some ⟨g, 0, none⟩), .int .i64 a1] w fun e w' => e = .returned (.tuple #[]) ∧ IsS88 w0 w' g r1 r2 r3 r4 ∧ Below w0.heap.size w0 w' ∧ KeepBut w w' g none := by
 have HI0 := Aside0.mk hI
 have HK := Aside0.mk (KeepBut.refl w g none)
 have HL := Aside0.mk hB.size
 clear hI
 have HW0 := Aside0.mk hB.size
 have HB := Aside0.mk hB
 clear hB
 have H : (if a1 < 0 then ((encode_Reader_Fail.f s0_0 s0_1 s0_2 s0_3).bind fun bt340 => (some (bt340.1, bt340.2.1, bt340.2.2.1, bt340.2.2.2))) else (some (s0_0, a1, s0_2, s0_3))) = some (r1, r2, r3, r4) := h
 clear h
 by_cases c3 : a1 < 0
 ·rw [if_pos c3] at H
  have c3b0 : decide (a1 < 0) = true := decide_eq_true c3
  clear c3
  replace H := Option.bind_eq_some_iff.mp H
  obtain ⟨⟨t340, t341, t342, t343⟩, A40, H⟩ := H
  replace H : (some (t340, t341, t342, t343)) = some (r1, r2, r3, r4) := H
  have A4 := Aside0.mk A40
  clear A40
  simp only [Option.some.injEq, Prod.mk.injEq] at H
  obtain ⟨rfl, rfl, rfl, rfl⟩ := H
  go_enter Tryd.func58, Tryd.ntmps58
  go_wp2_with (first | ((with_reducible refine gate_callee (f := 68) rfl ?_); refine goesL_ (some 7) rfl rfl Tryd.func68 (by kernel_rfl) rfl #[.pointer (some ⟨g, 0, none⟩)] rfl (by (try simp only [List.map_toArray, List.map_cons, List.map_nil]); first | done | rfl | (simp only [List.length_drop, List.length_take]; rfl)) ?_; (with_reducible refine (encode_Reader_Fail.calls g s0_0 s0_1 s0_2 s0_3 t340 t341 t342 t343 w0 _ ?side1 ?side2 A4.out).mono ?_); (case side1 => repeat (first | (with_reducible first | exact HI0.out | apply IsS88.alloc | apply IsS88.drewN | apply IsS88.drew | apply IsS88.set_0 | apply IsS88.set_1 | apply IsS88.set_2 | apply IsS88.set_3) | exact HI0.out)); (case side2 => repeat (first | (with_reducible first | exact HB.out | apply below_alloc | apply pw_below_drewN | apply below_drew1 | refine below_set ?_ (IsS88.ge HI0.out)) | exact HB.out)); rintro e w5 ⟨rfl, hi, hb, hk⟩; refine ⟨_, rfl, ?_⟩; have n0_ := Aside0.mk (KeepBut.trans (by repeat (first | (with_reducible first | exact HK.out | apply KeepBut.set_ | apply keep_drewN | apply keep_drew | apply keep_alloc) | exact HK.out)) hk (.inl rfl)); have n1_ := Aside0.mk (hb); have n2_ := Aside0.mk (hi); clear HK; clear HB; clear HI0; have HK := n0_; have HB := n1_; have HI0 := n2_; clear n0_ n1_ n2_; (try clear hb); (try clear hb2); (try clear hk); (try clear hi)))
  first | go_end0 | ((try simp only [Exit.inBlock, Exit.then]); refine bodyPost_ret (results_none rfl _ _ _) rfl ?_)
  exact ⟨by first | rfl | (simp [errW_none, errW_some] <;> rfl) | (simp [*, errW_none, errW_some] <;> rfl), by repeat (first | (with_reducible first | exact HI0.out | apply IsS88.alloc | apply IsS88.drewN | apply IsS88.drew | apply IsS88.set_0 | apply IsS88.set_1 | apply IsS88.set_2 | apply IsS88.set_3) | exact HI0.out), by repeat (first | (with_reducible first | exact HB.out | apply below_alloc | apply pw_below_drewN | apply below_drew1 | refine below_set ?_ (IsS88.ge HI0.out)) | exact HB.out), by repeat (first | (with_reducible first | exact HK.out | apply KeepBut.set_ | apply keep_drewN | apply keep_drew | apply keep_alloc) | exact HK.out)⟩
 ·rw [if_neg c3] at H
  have c3b0 : decide (a1 < 0) = false := decide_eq_false c3
  clear c3
  simp only [Option.some.injEq, Prod.mk.injEq] at H
  obtain ⟨rfl, rfl, rfl, rfl⟩ := H
  obtain ⟨HGz6, hgz6⟩ := HI0.out
  have hcz6_0 := cellS88_0 HGz6
  have hcz6_1 := cellS88_1 HGz6
  have hcz6_2 := cellS88_2 HGz6
  have hcz6_3 := cellS88_3 HGz6
  have hfz6_0 := blk_frozen HGz6 0
  have hfz6_1 := blk_frozen HGz6 1
  have hfz6_2 := blk_frozen HGz6 2
  have hfz6_3 := blk_frozen HGz6 3
  clear HGz6 hgz6
  go_enter Tryd.func58, Tryd.ntmps58
  go_wp2
  first | go_end0 | ((try simp only [Exit.inBlock, Exit.then]); refine bodyPost_ret (results_none rfl _ _ _) rfl ?_)
  exact ⟨by first | rfl | (simp [errW_none, errW_some] <;> rfl) | (simp [*, errW_none, errW_some] <;> rfl), by repeat (first | (with_reducible first | exact HI0.out | apply IsS88.alloc | apply IsS88.drewN | apply IsS88.drew | apply IsS88.set_0 | apply IsS88.set_1 | apply IsS88.set_2 | apply IsS88.set_3) | exact HI0.out), by repeat (first | (with_reducible first | exact HB.out | apply below_alloc | apply pw_below_drewN | apply below_drew1 | refine below_set ?_ (IsS88.ge HI0.out)) | exact HB.out), by repeat (first | (with_reducible first | exact HK.out | apply KeepBut.set_ | apply keep_drewN | apply keep_drew | apply keep_alloc) | exact HK.out)⟩
end Go.Proofs.YtfpopmojlmpopaaDoor.G

end
section
namespace Go.Proofs.YtfpopmojlmpopaaDoor.H
open Go.RowKit Go.Proofs.YtfpopmojlmpopaaDoorW.PrintWords Go.Proofs.YtfpopmojlmpopaaDoorW.PrintLast Go.Proofs.YtfpopmojlmpopaaDoorW.PrintMore Go.Proofs.YtfpopmojlmpopaaDoor.G
set_option linter.unusedVariables false
set_option linter.unusedSimpArgs false
def encode_Reader_Int.f (s0_0 : ByteArray) (s0_1 : Int) (s0_2 : Int) (s0_3 : Int) : Option (Int × ByteArray × Int × Int × Int) :=
 if s0_3 = 0 then
  if 0 ≤ s0_1 ∧ s0_1 ≤ (s0_0.size : Int) ∧ (s0_0.size : Int) ≤ 140737488355328 then
   (encode_Reader_move.f s0_0 s0_1 s0_2 s0_3 (outN (integerN s0_0 s0_1.toNat)).2).bind fun t => some ((outN (integerN s0_0 s0_1.toNat)).1, t.1, t.2.1, t.2.2.1, t.2.2.2)
  else none
 else some ((0 : Int), s0_0, s0_1, s0_2, s0_3)
set_option maxHeartbeats 8000000 in
set_option maxRecDepth 100000 in
theorem encode_Reader_Int.calls (g : Nat) (s0_0 : ByteArray) (s0_1 : Int) (s0_2 : Int) (s0_3 : Int) (r1 : Int) (r2 : ByteArray) (r3 : Int) (r4 : Int) (r5 : Int) (w0 w : World) (hLd : Laid w0) (hI : IsS88 w0 w g s0_0 s0_1 s0_2 s0_3) (hB : Below w0.heap.size w0 w) (h : encode_Reader_Int.f s0_0 s0_1 s0_2 s0_3 = some (r1, r2, r3, r4, r5)) :
  Calls Tryd.prog 37 #[.pointer (some ⟨g, 0, none⟩)] w fun e w' => e = .returned (.int .i64 r1) ∧ IsS88 w0 w' g r2 r3 r4 r5 ∧ Below w0.heap.size w0 w' ∧ KeepBut w w' g none := by
 unfold encode_Reader_Int.f at h
 obtain ⟨HGz, hgz⟩ := hI
 have hcz_0 := cellS88_0 HGz
 have hcz_1 := cellS88_1 HGz
 have hcz_2 := cellS88_2 HGz
 have hcz_3 := cellS88_3 HGz
 have hfz_0 := blk_frozen HGz 0
 have hfz_1 := blk_frozen HGz 1
 have hfz_2 := blk_frozen HGz 2
 have hfz_3 := blk_frozen HGz 3
 have HG := Lib.hid HGz
 have HB := Lib.hid hB
 have HL := Lib.hid hLd
 clear HGz hB hLd
 have GZ := Lib.hid hgz
 clear hgz
 go_enter Tryd.func37, Tryd.ntmps37
 by_cases h3 : s0_3 = 0
 ·rw [if_pos h3] at h
  have c0 : (s0_3 == 0) = true := beq_iff_eq.mpr h3
  have c1 : (s0_3 != 0) = false := bne_eq_false_iff_eq.mpr h3
  clear h3
  by_cases hr : 0 ≤ s0_1 ∧ s0_1 ≤ (s0_0.size : Int) ∧ (s0_0.size : Int) ≤ 140737488355328
  ·rw [if_pos hr] at h
   obtain ⟨hr0, hr1, hr2⟩ := hr
   obtain ⟨i, rfl⟩ := Int.eq_ofNat_of_zero_le hr0
   rw [Int.toNat_natCast] at h
   obtain ⟨o, ho⟩ : ∃ o, outN (integerN s0_0 i) = o := ⟨_, rfl⟩
   rw [ho] at h
   replace h := Option.bind_eq_some_iff.mp h
   obtain ⟨⟨t0, t1, t2, t3⟩, hm, h⟩ := h
   simp only [Option.some.injEq, Prod.mk.injEq] at h
   obtain ⟨rfl, rfl, rfl, rfl, rfl⟩ := h
   have HM := Lib.hid hm
   clear hm
   have HC := Lib.hid (encode_integer_calls s0_0 i (by omega) (by omega) w.drew (HL.out.below (below_drew1 HB.out)))
   clear hr0 hr1 hr2
   go_wp2_with fail
   refine start_ (n := 14) (S := fun w' => w'.cell? ⟨g, 0, none⟩ = some (.string s0_0) ∧ w'.cell? ⟨g, 1, none⟩ = some (.int .i64 (i : Int))) (ds := []) #[false, false, false, false, false, false, false, false, false, false, false, false, false, false] (by kernel_rfl) rfl rfl ⟨hcz_0, hcz_1⟩ (fun hHeld => ?_)
   refine pure_ (i := 0) (N := some 11) (v := ?_) (a' := ?_) #[true, false, false, false, false, false, false, false, false, false, false, false, false, false] rfl rfl (by kernel_rfl) (fun _ _ _ h => h) (Or.inl ⟨by rfl, ?_⟩) ?_ ?_
   rotate_left
   ·intro w'
    go_simp
    with_reducible rfl
   rotate_left
   ·simp only [Act.put, sA_, sB_, sC_, i64_w, i32_w]
    rfl
   refine pure_ (i := 1) (N := some 12) (v := ?_) (a' := ?_) #[true, true, false, false, false, false, false, false, false, false, false, false, false, false] rfl rfl (by kernel_rfl) (fun _ _ _ h => h) (Or.inl ⟨by rfl, ?_⟩) ?_ ?_
   rotate_left
   ·intro w'
    go_simp
    with_reducible rfl
   rotate_left
   ·simp only [Act.put, sA_, sB_, sC_, i64_w, i32_w]
    rfl
   refine pure_ (i := 2) (N := some 13) (v := ?_) (a' := ?_) #[true, true, true, false, false, false, false, false, false, false, false, false, false, false] rfl rfl (by kernel_rfl) (fun _ _ _ h => h) (Or.inl ⟨by rfl, ?_⟩) ?_ ?_
   rotate_left
   ·intro w'
    go_simp
    with_reducible rfl
   rotate_left
   ·simp only [Act.put, sA_, sB_, sC_, i64_w, i32_w]
    rfl
   refine pure_ (i := 4) (N := some 15) (v := ?_) (a' := ?_) #[true, true, true, false, true, false, false, false, false, false, false, false, false, false] rfl rfl (by kernel_rfl) (fun _ _ _ h => h) (Or.inl ⟨by rfl, ?_⟩) ?_ ?_
   rotate_left
   ·intro w'
    go_simp
    with_reducible rfl
   rotate_left
   ·simp only [Act.put, sA_, sB_, sC_, i64_w, i32_w]
    rfl
   refine pure_ (i := 5) (N := some 16) (v := ?_) (a' := ?_) #[true, true, true, false, true, true, false, false, false, false, false, false, false, false] rfl rfl (by kernel_rfl) (fun _ _ _ h => h) (Or.inl ⟨by rfl, ?_⟩) ?_ ?_
   rotate_left
   ·intro w'
    go_simp
    with_reducible rfl
   rotate_left
   ·simp only [Act.put, sA_, sB_, sC_, i64_w, i32_w]
    rfl
   refine pure_ (i := 6) (N := some 17) (v := ?_) (a' := ?_) #[true, true, true, false, true, true, true, false, false, false, false, false, false, false] rfl rfl (by kernel_rfl) (fun _ _ _ h => h) (Or.inl ⟨by rfl, ?_⟩) ?_ ?_
   rotate_left
   ·intro w'
    go_simp
    with_reducible rfl
   rotate_left
   ·simp only [Act.put, sA_, sB_, sC_, i64_w, i32_w]
    rfl
   refine take_ (i := 3) (N := some 14) (v := ?_) (a' := ?_) #[true, true, true, true, true, true, true, false, false, false, false, false, false, false] rfl rfl (by kernel_rfl) (fun _ _ _ h => h) (Or.inl ⟨by rfl, ?_⟩) hHeld ?_ ?_
   rotate_left
   ·rintro w' ⟨s0, s1⟩
    go_simp
    with_reducible rfl
   rotate_left
   ·simp only [Act.put, sA_, sB_, sC_, i64_w, i32_w]
    rfl
   refine take_ (i := 7) (N := some 18) (v := ?_) (a' := ?_) #[true, true, true, true, true, true, true, true, false, false, false, false, false, false] rfl rfl (by kernel_rfl) (fun _ _ _ h => h) (Or.inl ⟨by rfl, ?_⟩) hHeld ?_ ?_
   rotate_left
   ·rintro w' ⟨s0, s1⟩
    go_simp
    with_reducible rfl
   rotate_left
   ·simp only [Act.put, sA_, sB_, sC_, i64_w, i32_w]
    rfl
   refine one_ (i := 8) (N := some 19) #[true, true, true, true, true, true, true, true, true, false, false, false, false, false] rfl rfl (by kernel_rfl) (by decide) (fun K hK => ?_)
   refine goes_ Tryd.func57 (by kernel_rfl) rfl #[.string s0_0, .int .i64 (i : Int)] (by rfl) rfl rfl (by simp only [List.map_toArray, List.map_cons, List.map_nil]; rfl) ?_
   with_reducible refine (HC.out).mono ?_
   rintro e w3 ⟨rfl, hb⟩
   refine ⟨_, rfl, ?_⟩
   have HR3 := Lib.hid (show Below w.heap.size w w3 from ⟨hb.os, hb.tape, hb.output, hb.size, hb.block⟩)
   clear hb
   refine hK.out _ _ ⟨(HR3.out.cell (blk_lt HG.out)).trans hcz_0, (HR3.out.cell (blk_lt HG.out)).trans hcz_1⟩ (fun hHeld => ?_)
   clear hK K
   refine norm_ (a' := ?_) ?_ ?_
   rotate_left
   ·show Act.put _ (some 19) _ = _
    simp only [Act.put, sA_, sB_, sC_, i64_w, i32_w]
    rfl
   refine pure_ (i := 9) (N := some 10) (v := ?_) (a' := ?_) #[true, true, true, true, true, true, true, true, true, true, false, false, false, false] rfl rfl (by kernel_rfl) (fun _ _ _ h => h) (Or.inl ⟨by rfl, ?_⟩) ?_ ?_
   rotate_left
   ·intro w'
    go_simp
    with_reducible rfl
   rotate_left
   ·simp only [Act.put, sA_, sB_, sC_, i64_w, i32_w]
    rfl
   refine pure_ (i := 10) (N := some 20) (v := ?_) (a' := ?_) #[true, true, true, true, true, true, true, true, true, true, true, false, false, false] rfl rfl (by kernel_rfl) (fun _ _ _ h => h) (Or.inl ⟨by rfl, ?_⟩) ?_ ?_
   rotate_left
   ·intro w'
    go_simp
    with_reducible rfl
   rotate_left
   ·simp only [Act.put, sA_, sB_, sC_, i64_w, i32_w]
    rfl
   refine pure_ (i := 11) (N := some 21) (v := ?_) (a' := ?_) #[true, true, true, true, true, true, true, true, true, true, true, true, false, false] rfl rfl (by kernel_rfl) (fun _ _ _ h => h) (Or.inl ⟨by rfl, ?_⟩) ?_ ?_
   rotate_left
   ·intro w'
    go_simp
    with_reducible rfl
   rotate_left
   ·simp only [Act.put, sA_, sB_, sC_, i64_w, i32_w]
    rfl
   refine pure_ (i := 12) (N := some 3) (v := ?_) (a' := ?_) #[true, true, true, true, true, true, true, true, true, true, true, true, true, false] rfl rfl (by kernel_rfl) (fun _ _ _ h => h) (Or.inl ⟨by rfl, ?_⟩) ?_ ?_
   rotate_left
   ·intro w'
    go_simp
    with_reducible rfl
   rotate_left
   ·simp only [Act.put, sA_, sB_, sC_, i64_w, i32_w]
    rfl
   refine pure_ (i := 13) (N := some 4) (v := ?_) (a' := ?_) #[true, true, true, true, true, true, true, true, true, true, true, true, true, true] rfl rfl (by kernel_rfl) (fun _ _ _ h => h) (Or.inl ⟨by rfl, ?_⟩) ?_ ?_
   rotate_left
   ·intro w'
    go_simp
    with_reducible rfl
   rotate_left
   ·simp only [Act.put, sA_, sB_, sC_, i64_w, i32_w]
    rfl
   refine done_ (by kernel_rfl) ?_
   rw [ho]
   have HB3 : Hid (Below w0.heap.size w0 w3) := Lib.hid (HB.out.trans (HR3.out.mono HB.out.size))
   have HI3 : Hid (IsS88 w0 w3 g s0_0 (i : Int) s0_2 s0_3) := Lib.hid (IsS88.below (show IsS88 w0 w g s0_0 (i : Int) s0_2 s0_3 from ⟨HG.out, GZ.out⟩) HR3.out)
   clear hHeld
   go_wp2_with (first
    | ((with_reducible refine gate_callee (f := 58) rfl ?_); refine goesL_ (some 24) rfl rfl Tryd.func58 (by kernel_rfl) rfl #[.pointer (some ⟨g, 0, none⟩), .int .i64 o.2] rfl (by (try simp only [List.map_toArray, List.map_cons, List.map_nil]); first | done | rfl) ?_; (with_reducible refine (encode_Reader_move.calls g s0_0 i s0_2 s0_3 o.2 t0 t1 t2 t3 w0 _ HI3.out HB3.out HM.out).mono ?_); rintro e w5 ⟨rfl, hi, hb, hk⟩; refine ⟨_, rfl, ?_⟩; have HI5 := Lib.hid hi; have HB5 := Lib.hid hb; have HK5 := Lib.hid hk; clear hi hb hk))
   go_ret
   exact ⟨rfl, HI5.out, HB5.out, (KeepBut.of_below HR3.out g none).trans HK5.out (.inl rfl)⟩
  ·rw [if_neg hr] at h
   simp at h
 ·rw [if_neg h3] at h
  have c0 : (s0_3 == 0) = false := beq_eq_false_iff_ne.mpr h3
  have c1 : (s0_3 != 0) = true := bne_iff_ne.mpr h3
  clear h3
  simp only [Option.some.injEq, Prod.mk.injEq] at h
  obtain ⟨rfl, rfl, rfl, rfl, rfl⟩ := h
  go_wp2_with fail
  go_ret
  exact ⟨rfl, ⟨HG.out, GZ.out⟩, HB.out, KeepBut.refl _ _ _⟩
def encode_Reader_Text.f (s0_0 : ByteArray) (s0_1 : Int) (s0_2 : Int) (s0_3 : Int) : Option (ByteArray × ByteArray × Int × Int × Int) :=
 if s0_3 = 0 then
  if 0 ≤ s0_1 ∧ s0_1 ≤ (s0_0.size : Int) ∧ (s0_0.size : Int) ≤ 140737488355328 then
   (encode_Reader_move.f s0_0 s0_1 s0_2 s0_3 (outT s0_0 (textN s0_0 s0_1.toNat)).2).bind fun t => some ((outT s0_0 (textN s0_0 s0_1.toNat)).1, t.1, t.2.1, t.2.2.1, t.2.2.2)
  else none
 else some ((⟨#[]⟩ : ByteArray), s0_0, s0_1, s0_2, s0_3)
set_option maxHeartbeats 8000000 in
set_option maxRecDepth 100000 in
theorem encode_Reader_Text.calls (g : Nat) (s0_0 : ByteArray) (s0_1 : Int) (s0_2 : Int) (s0_3 : Int) (r1 : ByteArray) (r2 : ByteArray) (r3 : Int) (r4 : Int) (r5 : Int) (w0 w : World) (hLd : Laid w0) (hI : IsS88 w0 w g s0_0 s0_1 s0_2 s0_3) (hB : Below w0.heap.size w0 w) (h : encode_Reader_Text.f s0_0 s0_1 s0_2 s0_3 = some (r1, r2, r3, r4, r5)) :
  Calls Tryd.prog 59 #[.pointer (some ⟨g, 0, none⟩)] w fun e w' => e = .returned (.string r1) ∧ IsS88 w0 w' g r2 r3 r4 r5 ∧ Below w0.heap.size w0 w' ∧ KeepBut w w' g none := by
 unfold encode_Reader_Text.f at h
 obtain ⟨HGz, hgz⟩ := hI
 have hcz_0 := cellS88_0 HGz
 have hcz_1 := cellS88_1 HGz
 have hcz_2 := cellS88_2 HGz
 have hcz_3 := cellS88_3 HGz
 have hfz_0 := blk_frozen HGz 0
 have hfz_1 := blk_frozen HGz 1
 have hfz_2 := blk_frozen HGz 2
 have hfz_3 := blk_frozen HGz 3
 have HG := Lib.hid HGz
 have HB := Lib.hid hB
 have HL := Lib.hid hLd
 clear HGz hB hLd
 have GZ := Lib.hid hgz
 clear hgz
 go_enter Tryd.func59, Tryd.ntmps59
 by_cases h3 : s0_3 = 0
 ·rw [if_pos h3] at h
  have c0 : (s0_3 == 0) = true := beq_iff_eq.mpr h3
  have c1 : (s0_3 != 0) = false := bne_eq_false_iff_eq.mpr h3
  clear h3
  by_cases hr : 0 ≤ s0_1 ∧ s0_1 ≤ (s0_0.size : Int) ∧ (s0_0.size : Int) ≤ 140737488355328
  ·rw [if_pos hr] at h
   obtain ⟨hr0, hr1, hr2⟩ := hr
   obtain ⟨i, rfl⟩ := Int.eq_ofNat_of_zero_le hr0
   rw [Int.toNat_natCast] at h
   obtain ⟨o, ho⟩ : ∃ o, outT s0_0 (textN s0_0 i) = o := ⟨_, rfl⟩
   rw [ho] at h
   replace h := Option.bind_eq_some_iff.mp h
   obtain ⟨⟨t0, t1, t2, t3⟩, hm, h⟩ := h
   simp only [Option.some.injEq, Prod.mk.injEq] at h
   obtain ⟨rfl, rfl, rfl, rfl, rfl⟩ := h
   have HM := Lib.hid hm
   clear hm
   have HC := Lib.hid (encode_text_calls s0_0 i (by omega) (by omega) w.drew (HL.out.below (below_drew1 HB.out)))
   clear hr0 hr1 hr2
   go_wp2_with fail
   refine start_ (n := 14) (S := fun w' => w'.cell? ⟨g, 0, none⟩ = some (.string s0_0) ∧ w'.cell? ⟨g, 1, none⟩ = some (.int .i64 (i : Int))) (ds := []) #[false, false, false, false, false, false, false, false, false, false, false, false, false, false] (by kernel_rfl) rfl rfl ⟨hcz_0, hcz_1⟩ (fun hHeld => ?_)
   refine pure_ (i := 0) (N := some 11) (v := ?_) (a' := ?_) #[true, false, false, false, false, false, false, false, false, false, false, false, false, false] rfl rfl (by kernel_rfl) (fun _ _ _ h => h) (Or.inl ⟨by rfl, ?_⟩) ?_ ?_
   rotate_left
   ·intro w'
    go_simp
    with_reducible rfl
   rotate_left
   ·simp only [Act.put, sA_, sB_, sC_, i64_w, i32_w]
    rfl
   refine pure_ (i := 1) (N := some 12) (v := ?_) (a' := ?_) #[true, true, false, false, false, false, false, false, false, false, false, false, false, false] rfl rfl (by kernel_rfl) (fun _ _ _ h => h) (Or.inl ⟨by rfl, ?_⟩) ?_ ?_
   rotate_left
   ·intro w'
    go_simp
    with_reducible rfl
   rotate_left
   ·simp only [Act.put, sA_, sB_, sC_, i64_w, i32_w]
    rfl
   refine pure_ (i := 2) (N := some 13) (v := ?_) (a' := ?_) #[true, true, true, false, false, false, false, false, false, false, false, false, false, false] rfl rfl (by kernel_rfl) (fun _ _ _ h => h) (Or.inl ⟨by rfl, ?_⟩) ?_ ?_
   rotate_left
   ·intro w'
    go_simp
    with_reducible rfl
   rotate_left
   ·simp only [Act.put, sA_, sB_, sC_, i64_w, i32_w]
    rfl
   refine pure_ (i := 4) (N := some 15) (v := ?_) (a' := ?_) #[true, true, true, false, true, false, false, false, false, false, false, false, false, false] rfl rfl (by kernel_rfl) (fun _ _ _ h => h) (Or.inl ⟨by rfl, ?_⟩) ?_ ?_
   rotate_left
   ·intro w'
    go_simp
    with_reducible rfl
   rotate_left
   ·simp only [Act.put, sA_, sB_, sC_, i64_w, i32_w]
    rfl
   refine pure_ (i := 5) (N := some 16) (v := ?_) (a' := ?_) #[true, true, true, false, true, true, false, false, false, false, false, false, false, false] rfl rfl (by kernel_rfl) (fun _ _ _ h => h) (Or.inl ⟨by rfl, ?_⟩) ?_ ?_
   rotate_left
   ·intro w'
    go_simp
    with_reducible rfl
   rotate_left
   ·simp only [Act.put, sA_, sB_, sC_, i64_w, i32_w]
    rfl
   refine pure_ (i := 6) (N := some 17) (v := ?_) (a' := ?_) #[true, true, true, false, true, true, true, false, false, false, false, false, false, false] rfl rfl (by kernel_rfl) (fun _ _ _ h => h) (Or.inl ⟨by rfl, ?_⟩) ?_ ?_
   rotate_left
   ·intro w'
    go_simp
    with_reducible rfl
   rotate_left
   ·simp only [Act.put, sA_, sB_, sC_, i64_w, i32_w]
    rfl
   refine take_ (i := 3) (N := some 14) (v := ?_) (a' := ?_) #[true, true, true, true, true, true, true, false, false, false, false, false, false, false] rfl rfl (by kernel_rfl) (fun _ _ _ h => h) (Or.inl ⟨by rfl, ?_⟩) hHeld ?_ ?_
   rotate_left
   ·rintro w' ⟨s0, s1⟩
    go_simp
    with_reducible rfl
   rotate_left
   ·simp only [Act.put, sA_, sB_, sC_, i64_w, i32_w]
    rfl
   refine take_ (i := 7) (N := some 18) (v := ?_) (a' := ?_) #[true, true, true, true, true, true, true, true, false, false, false, false, false, false] rfl rfl (by kernel_rfl) (fun _ _ _ h => h) (Or.inl ⟨by rfl, ?_⟩) hHeld ?_ ?_
   rotate_left
   ·rintro w' ⟨s0, s1⟩
    go_simp
    with_reducible rfl
   rotate_left
   ·simp only [Act.put, sA_, sB_, sC_, i64_w, i32_w]
    rfl
   refine one_ (i := 8) (N := some 19) #[true, true, true, true, true, true, true, true, true, false, false, false, false, false] rfl rfl (by kernel_rfl) (by decide) (fun K hK => ?_)
   refine goes_ Tryd.func71 (by kernel_rfl) rfl #[.string s0_0, .int .i64 (i : Int)] (by rfl) rfl rfl (by simp only [List.map_toArray, List.map_cons, List.map_nil]; rfl) ?_
   with_reducible refine (HC.out).mono ?_
   rintro e w3 ⟨rfl, hb⟩
   refine ⟨_, rfl, ?_⟩
   have HR3 := Lib.hid (show Below w.heap.size w w3 from ⟨hb.os, hb.tape, hb.output, hb.size, hb.block⟩)
   clear hb
   refine hK.out _ _ ⟨(HR3.out.cell (blk_lt HG.out)).trans hcz_0, (HR3.out.cell (blk_lt HG.out)).trans hcz_1⟩ (fun hHeld => ?_)
   clear hK K
   refine norm_ (a' := ?_) ?_ ?_
   rotate_left
   ·show Act.put _ (some 19) _ = _
    simp only [Act.put, sA_, sB_, sC_, i64_w, i32_w]
    rfl
   refine pure_ (i := 9) (N := some 10) (v := ?_) (a' := ?_) #[true, true, true, true, true, true, true, true, true, true, false, false, false, false] rfl rfl (by kernel_rfl) (fun _ _ _ h => h) (Or.inl ⟨by rfl, ?_⟩) ?_ ?_
   rotate_left
   ·intro w'
    go_simp
    with_reducible rfl
   rotate_left
   ·simp only [Act.put, sA_, sB_, sC_, i64_w, i32_w]
    rfl
   refine pure_ (i := 10) (N := some 20) (v := ?_) (a' := ?_) #[true, true, true, true, true, true, true, true, true, true, true, false, false, false] rfl rfl (by kernel_rfl) (fun _ _ _ h => h) (Or.inl ⟨by rfl, ?_⟩) ?_ ?_
   rotate_left
   ·intro w'
    go_simp
    with_reducible rfl
   rotate_left
   ·simp only [Act.put, sA_, sB_, sC_, i64_w, i32_w]
    rfl
   refine pure_ (i := 11) (N := some 21) (v := ?_) (a' := ?_) #[true, true, true, true, true, true, true, true, true, true, true, true, false, false] rfl rfl (by kernel_rfl) (fun _ _ _ h => h) (Or.inl ⟨by rfl, ?_⟩) ?_ ?_
   rotate_left
   ·intro w'
    go_simp
    with_reducible rfl
   rotate_left
   ·simp only [Act.put, sA_, sB_, sC_, i64_w, i32_w]
    rfl
   refine pure_ (i := 12) (N := some 3) (v := ?_) (a' := ?_) #[true, true, true, true, true, true, true, true, true, true, true, true, true, false] rfl rfl (by kernel_rfl) (fun _ _ _ h => h) (Or.inl ⟨by rfl, ?_⟩) ?_ ?_
   rotate_left
   ·intro w'
    go_simp
    with_reducible rfl
   rotate_left
   ·simp only [Act.put, sA_, sB_, sC_, i64_w, i32_w]
    rfl
   refine pure_ (i := 13) (N := some 4) (v := ?_) (a' := ?_) #[true, true, true, true, true, true, true, true, true, true, true, true, true, true] rfl rfl (by kernel_rfl) (fun _ _ _ h => h) (Or.inl ⟨by rfl, ?_⟩) ?_ ?_
   rotate_left
   ·intro w'
    go_simp
    with_reducible rfl
   rotate_left
   ·simp only [Act.put, sA_, sB_, sC_, i64_w, i32_w]
    rfl
   refine done_ (by kernel_rfl) ?_
   rw [ho]
   have HB3 : Hid (Below w0.heap.size w0 w3) := Lib.hid (HB.out.trans (HR3.out.mono HB.out.size))
   have HI3 : Hid (IsS88 w0 w3 g s0_0 (i : Int) s0_2 s0_3) := Lib.hid (IsS88.below (show IsS88 w0 w g s0_0 (i : Int) s0_2 s0_3 from ⟨HG.out, GZ.out⟩) HR3.out)
   clear hHeld
   go_wp2_with (first
    | ((with_reducible refine gate_callee (f := 58) rfl ?_); refine goesL_ (some 24) rfl rfl Tryd.func58 (by kernel_rfl) rfl #[.pointer (some ⟨g, 0, none⟩), .int .i64 o.2] rfl (by (try simp only [List.map_toArray, List.map_cons, List.map_nil]); first | done | rfl) ?_; (with_reducible refine (encode_Reader_move.calls g s0_0 i s0_2 s0_3 o.2 t0 t1 t2 t3 w0 _ HI3.out HB3.out HM.out).mono ?_); rintro e w5 ⟨rfl, hi, hb, hk⟩; refine ⟨_, rfl, ?_⟩; have HI5 := Lib.hid hi; have HB5 := Lib.hid hb; have HK5 := Lib.hid hk; clear hi hb hk))
   go_ret
   exact ⟨rfl, HI5.out, HB5.out, (KeepBut.of_below HR3.out g none).trans HK5.out (.inl rfl)⟩
  ·rw [if_neg hr] at h
   simp at h
 ·rw [if_neg h3] at h
  have c0 : (s0_3 == 0) = false := beq_eq_false_iff_ne.mpr h3
  have c1 : (s0_3 != 0) = true := bne_iff_ne.mpr h3
  clear h3
  simp only [Option.some.injEq, Prod.mk.injEq] at h
  obtain ⟨rfl, rfl, rfl, rfl, rfl⟩ := h
  go_wp2_with fail
  go_ret
  exact ⟨rfl, ⟨HG.out, GZ.out⟩, HB.out, KeepBut.refl _ _ _⟩
end Go.Proofs.YtfpopmojlmpopaaDoor.H

end
section
namespace Go.Proofs.YtfpopmojlmpopaaDoor.G
open Go.RowKit Go.Proofs.YtfpopmojlmpopaaDoorW.PrintWords Go.Proofs.YtfpopmojlmpopaaDoorW.PrintLast Go.Proofs.YtfpopmojlmpopaaDoorW.PrintMore
attribute [local go_sem] max2_int min2_int max_two min_two max_three min_three max_four min_four
set_option linter.unusedVariables false
set_option linter.unusedSimpArgs false
def frame_getLines.l0 : Nat → List ByteArray → ByteArray → Int → Int → Int → Option (List ByteArray × ByteArray × Int × Int × Int)
 | 0, _, _, _, _, _ => none
 | k + 1, x3, x1000, x1001, x1002, x1003 => (encode_Reader_More.f x1000 x1001 x1002 x1003).bind fun bt348 => (if bt348.1 = true then ((encode_Reader_Err.f bt348.2.1 bt348.2.2.1 bt348.2.2.2.1 bt348.2.2.2.2).bind fun bt353 => (if bt353.1 = 0 then ((Go.Proofs.YtfpopmojlmpopaaDoor.H.encode_Reader_Text.f bt353.2.1 bt353.2.2.1 bt353.2.2.2.1 bt353.2.2.2.2).bind fun bt358 => (if x3.length < 8796093022208 then (frame_getLines.l0 k (x3 ++ [bt358.1]) bt358.2.1 bt358.2.2.1 bt358.2.2.2.1 bt358.2.2.2.2) else (none))) else ((encode_Reader_Close.f bt353.2.1 bt353.2.2.1 bt353.2.2.2.1 bt353.2.2.2.2).bind fun bt366 => (some (x3, bt366.1, bt366.2.1, bt366.2.2.1, bt366.2.2.2))))) else ((encode_Reader_Close.f bt348.2.1 bt348.2.2.1 bt348.2.2.2.1 bt348.2.2.2.2).bind fun bt370 => (some (x3, bt370.1, bt370.2.1, bt370.2.2.1, bt370.2.2.2))))
def frame_getLines.f (k : Nat) (s0_0 : ByteArray) (s0_1 : Int) (s0_2 : Int) (s0_3 : Int) : Option (List ByteArray × ByteArray × Int × Int × Int) := (encode_Reader_Open.f s0_0 s0_1 s0_2 s0_3).bind fun bt344 => (frame_getLines.l0 k ([] : List ByteArray) bt344.1 bt344.2.1 bt344.2.2.1 bt344.2.2.2)
set_option maxHeartbeats 8000000 in
set_option maxRecDepth 100000 in
theorem frame_getLines.calls (k : Nat) (g : Nat) (s0_0 : ByteArray) (s0_1 : Int) (s0_2 : Int) (s0_3 : Int) (r1 : List ByteArray) (r2 : ByteArray) (r3 : Int) (r4 : Int) (r5 : Int) (w0 w : World) (hLd : Go.Proofs.YtfpopmojlmpopaaDoor.H.Laid w0) (hI : IsS88 w0 w g s0_0 s0_1 s0_2 s0_3) (hB : Below w0.heap.size w0 w) (h : frame_getLines.f k s0_0 s0_1 s0_2 s0_3 = some (r1, r2, r3, r4, r5)) :
  Calls Tryd.prog 38 #[.pointer (some ⟨g, 0, none⟩)] w fun e w' => ∃ v0_ : Value, e = .returned (v0_) ∧ Kd.R Kd.string 9 w' w.heap.size (fun _ => True) v0_ r1 ∧ IsS88 w0 w' g r2 r3 r4 r5 ∧ Below w0.heap.size w0 w' ∧ KeepBut w w' g none := by
 have HLd := Aside0.mk hLd
 clear hLd
 have HI0 := Aside0.mk hI
 have HK := Aside0.mk (KeepBut.refl w g none)
 have HL := Aside0.mk hB.size
 clear hI
 have HW0 := Aside0.mk hB.size
 have HB := Aside0.mk hB
 clear hB
 have H : ((encode_Reader_Open.f s0_0 s0_1 s0_2 s0_3).bind fun bt344 => (frame_getLines.l0 k ([] : List ByteArray) bt344.1 bt344.2.1 bt344.2.2.1 bt344.2.2.2)) = some (r1, r2, r3, r4, r5) := h
 clear h
 replace H := Option.bind_eq_some_iff.mp H
 obtain ⟨⟨t344, t345, t346, t347⟩, A20, H⟩ := H
 replace H : (frame_getLines.l0 k ([] : List ByteArray) t344 t345 t346 t347) = some (r1, r2, r3, r4, r5) := H
 have A2 := Aside0.mk A20
 clear A20
 have H' := Aside0.mk H
 clear H
 go_enter Tryd.func38, Tryd.ntmps38
 go_wp2_with (first | ((with_reducible refine gate_callee (f := 36) rfl ?_); refine goesL_ (some 5) rfl rfl Tryd.func36 (by kernel_rfl) rfl #[.pointer (some ⟨g, 0, none⟩)] rfl (by (try simp only [List.map_toArray, List.map_cons, List.map_nil]); first | done | rfl | (simp only [List.length_drop, List.length_take]; rfl)) ?_; (with_reducible refine (encode_Reader_Open.calls g s0_0 s0_1 s0_2 s0_3 t344 t345 t346 t347 w0 _ ?side1 ?side2 A2.out).mono ?_); (case side1 => repeat (first | (with_reducible first | exact HI0.out | apply IsS88.alloc | apply IsS88.drewN | apply IsS88.drew | apply IsS88.set_0 | apply IsS88.set_1 | apply IsS88.set_2 | apply IsS88.set_3) | exact HI0.out)); (case side2 => repeat (first | (with_reducible first | exact HB.out | apply below_alloc | apply pw_below_drewN | apply below_drew1 | refine below_set ?_ (IsS88.ge HI0.out)) | exact HB.out)); rintro e w3 ⟨rfl, hi, hb, hk⟩; refine ⟨_, rfl, ?_⟩; have n0_ := Aside0.mk (KeepBut.trans (by repeat (first | (with_reducible first | exact HK.out | apply KeepBut.set_ | apply keep_drewN | apply keep_drew | apply keep_alloc) | exact HK.out)) hk (.inl rfl)); have n1_ := Aside0.mk (hb); have n2_ := Aside0.mk (hi); clear HK; clear HB; clear HI0; have HK := n0_; have HB := n1_; have HI0 := n2_; clear n0_ n1_ n2_; (try clear hb); (try clear hb2); (try clear hk); (try clear hi)))
 try simp only [Act.put, sA_, sB_, sC_, i64_w, i32_w]
 go_loopg [3] k (fun kq v3 w' => ∃ (x3_1 : List ByteArray) (x1000_1 : ByteArray) (x1001_1 : Int) (x1002_1 : Int) (x1003_1 : Int), Aside0 (frame_getLines.l0 kq x3_1 x1000_1 x1001_1 x1002_1 x1003_1 = some (r1, r2, r3, r4, r5)) ∧ Aside0 (kq ≤ k) ∧ Aside0 (Kd.R Kd.string 9 w' w.heap.size (fun _ => True) v3 x3_1) ∧ Aside0 (IsS88 w0 w' g x1000_1 x1001_1 x1002_1 x1003_1) ∧ Aside0 (KeepBut w w' g none) ∧ Aside0 (Below w0.heap.size w0 w'))
 case atStart => exact ⟨(([] : List ByteArray)), (t344), (t345), (t346), (t347), H', ⟨Nat.le_refl _⟩, ⟨by first | exact Kd.R_nil _ _ _ _ _ | exact Kd.N_nil _ _ _ _ _ | exact Kd.V_nil _ _ _ _ _ | exact Kd.Q_nil _ _ _ _ _ | exact Kd.S_nil _ _ _ _ _⟩, ⟨by repeat (first | (with_reducible first | exact HI0.out | apply IsS88.alloc | apply IsS88.drewN | apply IsS88.drew | apply IsS88.set_0 | apply IsS88.set_1 | apply IsS88.set_2 | apply IsS88.set_3) | exact HI0.out)⟩, ⟨by repeat (first | (with_reducible first | exact HK.out | apply KeepBut.set_ | apply keep_drewN | apply keep_drew | apply keep_alloc) | exact HK.out)⟩, ⟨by repeat (first | (with_reducible first | exact HB.out | apply below_alloc | apply pw_below_drewN | apply below_drew1 | refine below_set ?_ (IsS88.ge HI0.out)) | exact HB.out)⟩⟩
 case round =>
  clear H'
  try clear p2
  try clear c3
  obtain ⟨x3_1, x1000_1, x1001_1, x1002_1, x1003_1, HA, HK1, HO_3, HI0, HK, HB⟩ := hrel
  cases gk with
  | zero => exact absurd HA.out (by simp [frame_getLines.l0])
  | succ k1 =>
   have H := HA.out
   clear HA
   simp only [frame_getLines.l0] at H
   replace H := Option.bind_eq_some_iff.mp H
   obtain ⟨⟨t348, t349, t350, t351, t352⟩, A40, H⟩ := H
   replace H : (if t348 = true then ((encode_Reader_Err.f t349 t350 t351 t352).bind fun bt353 => (if bt353.1 = 0 then ((Go.Proofs.YtfpopmojlmpopaaDoor.H.encode_Reader_Text.f bt353.2.1 bt353.2.2.1 bt353.2.2.2.1 bt353.2.2.2.2).bind fun bt358 => (if x3_1.length < 8796093022208 then (frame_getLines.l0 k1 (x3_1 ++ [bt358.1]) bt358.2.1 bt358.2.2.1 bt358.2.2.2.1 bt358.2.2.2.2) else (none))) else ((encode_Reader_Close.f bt353.2.1 bt353.2.2.1 bt353.2.2.2.1 bt353.2.2.2.2).bind fun bt366 => (some (x3_1, bt366.1, bt366.2.1, bt366.2.2.1, bt366.2.2.2))))) else ((encode_Reader_Close.f t349 t350 t351 t352).bind fun bt370 => (some (x3_1, bt370.1, bt370.2.1, bt370.2.2.1, bt370.2.2.2)))) = some (r1, r2, r3, r4, r5) := H
   have A4 := Aside0.mk A40
   clear A40
   by_cases c5 : t348 = true
   ·subst c5
    have H1 : ((encode_Reader_Err.f t349 t350 t351 t352).bind fun bt353 => (if bt353.1 = 0 then ((Go.Proofs.YtfpopmojlmpopaaDoor.H.encode_Reader_Text.f bt353.2.1 bt353.2.2.1 bt353.2.2.2.1 bt353.2.2.2.2).bind fun bt358 => (if x3_1.length < 8796093022208 then (frame_getLines.l0 k1 (x3_1 ++ [bt358.1]) bt358.2.1 bt358.2.2.1 bt358.2.2.2.1 bt358.2.2.2.2) else (none))) else ((encode_Reader_Close.f bt353.2.1 bt353.2.2.1 bt353.2.2.2.1 bt353.2.2.2.2).bind fun bt366 => (some (x3_1, bt366.1, bt366.2.1, bt366.2.2.1, bt366.2.2.2))))) = some (r1, r2, r3, r4, r5) := by rw [if_pos rfl] at H; exact H
    clear H
    have H := H1
    clear H1
    replace H := Option.bind_eq_some_iff.mp H
    obtain ⟨⟨t353, t354, t355, t356, t357⟩, A60, H⟩ := H
    replace H : (if t353 = 0 then ((Go.Proofs.YtfpopmojlmpopaaDoor.H.encode_Reader_Text.f t354 t355 t356 t357).bind fun bt358 => (if x3_1.length < 8796093022208 then (frame_getLines.l0 k1 (x3_1 ++ [bt358.1]) bt358.2.1 bt358.2.2.1 bt358.2.2.2.1 bt358.2.2.2.2) else (none))) else ((encode_Reader_Close.f t354 t355 t356 t357).bind fun bt366 => (some (x3_1, bt366.1, bt366.2.1, bt366.2.2.1, bt366.2.2.2)))) = some (r1, r2, r3, r4, r5) := H
    have A6 := Aside0.mk A60
    clear A60
    by_cases c7 : t353 = 0
    ·rw [if_pos c7] at H
     have c7b0 : (t353 == 0) = true := beq_iff_eq.mpr c7
     have c7b1 : (t353 != 0) = false := bne_eq_false_iff_eq.mpr c7
     clear c7
     replace H := Option.bind_eq_some_iff.mp H
     obtain ⟨⟨t358, t359, t360, t361, t362⟩, A80, H⟩ := H
     replace H : (if x3_1.length < 8796093022208 then (frame_getLines.l0 k1 (x3_1 ++ [t358]) t359 t360 t361 t362) else (none)) = some (r1, r2, r3, r4, r5) := H
     have A8 := Aside0.mk A80
     clear A80
     by_cases c9 : x3_1.length < 8796093022208
     ·rw [if_pos c9] at H
      have LMc9 := Aside0.mk c9
      clear c9
      obtain ⟨y363, hy363⟩ : ∃ y_ : List ByteArray, y_ = (x3_1 ++ [t358]) := ⟨_, rfl⟩
      replace H : (frame_getLines.l0 k1 y363 t359 t360 t361 t362) = some (r1, r2, r3, r4, r5) := by first | (rw [hy363]; with_reducible exact H) | (have H2_ := (Option.bind_some _ _).symm.trans H; rw [hy363]; with_reducible exact H2_) | (have H2_ := (Option.bind_some _ _).symm.trans H; with_reducible exact H2_) | with_reducible exact H | (rw [hy363]; exact H) | exact H
      have Ny363 := Aside0.mk hy363
      clear hy363
      have H' := Aside0.mk H
      clear H
      go_wp2_with (first | ((with_reducible refine gate_callee (f := 39) rfl ?_); refine goesL_ (some 7) rfl rfl Tryd.func39 (by kernel_rfl) rfl #[.pointer (some ⟨g, 0, none⟩)] rfl (by (try simp only [List.map_toArray, List.map_cons, List.map_nil]); first | done | rfl | (simp only [List.length_drop, List.length_take]; rfl)) ?_; (with_reducible refine (encode_Reader_More.calls g x1000_1 x1001_1 x1002_1 x1003_1 true t349 t350 t351 t352 w0 _ ?side1 ?side2 A4.out).mono ?_); (case side1 => repeat (first | (with_reducible first | exact HI0.out | apply IsS88.alloc | apply IsS88.drewN | apply IsS88.drew | apply IsS88.set_0 | apply IsS88.set_1 | apply IsS88.set_2 | apply IsS88.set_3) | exact HI0.out)); (case side2 => repeat (first | (with_reducible first | exact HB.out | apply below_alloc | apply pw_below_drewN | apply below_drew1 | refine below_set ?_ (IsS88.ge HI0.out)) | exact HB.out)); rintro e w10 ⟨rfl, hi, hb, hk⟩; refine ⟨_, rfl, ?_⟩; have n0_ := Aside0.mk (Kd.R_mono (Kd.R_keep (IsS88.apart (show IsS88 w0 _ g x1000_1 x1001_1 x1002_1 x1003_1 from by repeat (first | (with_reducible first | exact HI0.out | apply IsS88.alloc | apply IsS88.drewN | apply IsS88.drew | apply IsS88.set_0 | apply IsS88.set_1 | apply IsS88.set_2 | apply IsS88.set_3) | exact HI0.out)) (by (with_reducible repeat (first | apply Kd.R_alloc | apply Kd.R_drewN | apply Kd.R_drew)); exact HO_3.out) (by decide)) hk (fun _ h => h.2)) (fun _ h => h.1)); have n1_ := Aside0.mk (KeepBut.trans (by repeat (first | (with_reducible first | exact HK.out | apply KeepBut.set_ | apply keep_drewN | apply keep_drew | apply keep_alloc) | exact HK.out)) hk (.inl rfl)); have n2_ := Aside0.mk (hb); have n3_ := Aside0.mk (hi); clear HO_3; clear HK; clear HB; clear HI0; have HO_3 := n0_; have HK := n1_; have HB := n2_; have HI0 := n3_; clear n0_ n1_ n2_ n3_; (try clear hb); (try clear hb2); (try clear hk); (try clear hi)) | (go_at_call 40; (with_reducible refine (encode_Reader_Err.calls g t349 t350 t351 t352 t353 t354 t355 t356 t357 w0 _ ?side1 ?side2 A6.out).mono ?_); (case side1 => repeat (first | (with_reducible first | exact HI0.out | apply IsS88.alloc | apply IsS88.drewN | apply IsS88.drew | apply IsS88.set_0 | apply IsS88.set_1 | apply IsS88.set_2 | apply IsS88.set_3) | exact HI0.out)); (case side2 => repeat (first | (with_reducible first | exact HB.out | apply below_alloc | apply pw_below_drewN | apply below_drew1 | refine below_set ?_ (IsS88.ge HI0.out)) | exact HB.out)); rintro e w11 ⟨rfl, hi, hb, hk⟩; have n0_ := Aside0.mk (Kd.R_mono (Kd.R_keep (IsS88.apart (show IsS88 w0 _ g t349 t350 t351 t352 from by repeat (first | (with_reducible first | exact HI0.out | apply IsS88.alloc | apply IsS88.drewN | apply IsS88.drew | apply IsS88.set_0 | apply IsS88.set_1 | apply IsS88.set_2 | apply IsS88.set_3) | exact HI0.out)) (by (with_reducible repeat (first | apply Kd.R_alloc | apply Kd.R_drewN | apply Kd.R_drew)); exact HO_3.out) (by decide)) hk (fun _ h => h.2)) (fun _ h => h.1)); have n1_ := Aside0.mk (KeepBut.trans (by repeat (first | (with_reducible first | exact HK.out | apply KeepBut.set_ | apply keep_drewN | apply keep_drew | apply keep_alloc) | exact HK.out)) hk (.inl rfl)); have n2_ := Aside0.mk (hb); have n3_ := Aside0.mk (hi); clear HO_3; clear HK; clear HB; clear HI0; have HO_3 := n0_; have HK := n1_; have HB := n2_; have HI0 := n3_; clear n0_ n1_ n2_ n3_; (try clear hb); (try clear hb2); (try clear hk); (try clear hi)) | ((with_reducible refine gate_callee (f := 59) rfl ?_); refine goesL_ (some 15) rfl rfl Tryd.func59 (by kernel_rfl) rfl #[.pointer (some ⟨g, 0, none⟩)] rfl (by (try simp only [List.map_toArray, List.map_cons, List.map_nil]); first | done | rfl | (simp only [List.length_drop, List.length_take]; rfl)) ?_; (with_reducible refine (Go.Proofs.YtfpopmojlmpopaaDoor.H.encode_Reader_Text.calls g t354 t355 t356 t357 t358 t359 t360 t361 t362 w0 _ ?side1 ?side2 ?side3 A8.out).mono ?_); (case side1 => exact HLd.out); (case side2 => repeat (first | (with_reducible first | exact HI0.out | apply IsS88.alloc | apply IsS88.drewN | apply IsS88.drew | apply IsS88.set_0 | apply IsS88.set_1 | apply IsS88.set_2 | apply IsS88.set_3) | exact HI0.out)); (case side3 => repeat (first | (with_reducible first | exact HB.out | apply below_alloc | apply pw_below_drewN | apply below_drew1 | refine below_set ?_ (IsS88.ge HI0.out)) | exact HB.out)); rintro e w12 ⟨rfl, hi, hb, hk⟩; refine ⟨_, rfl, ?_⟩; have n0_ := Aside0.mk (Kd.R_mono (Kd.R_keep (IsS88.apart (show IsS88 w0 _ g t354 t355 t356 t357 from by repeat (first | (with_reducible first | exact HI0.out | apply IsS88.alloc | apply IsS88.drewN | apply IsS88.drew | apply IsS88.set_0 | apply IsS88.set_1 | apply IsS88.set_2 | apply IsS88.set_3) | exact HI0.out)) (by (with_reducible repeat (first | apply Kd.R_alloc | apply Kd.R_drewN | apply Kd.R_drew)); exact HO_3.out) (by decide)) hk (fun _ h => h.2)) (fun _ h => h.1)); have n1_ := Aside0.mk (KeepBut.trans (by repeat (first | (with_reducible first | exact HK.out | apply KeepBut.set_ | apply keep_drewN | apply keep_drew | apply keep_alloc) | exact HK.out)) hk (.inl rfl)); have n2_ := Aside0.mk (hb); have n3_ := Aside0.mk (hi); clear HO_3; clear HK; clear HB; clear HI0; have HO_3 := n0_; have HK := n1_; have HB := n2_; have HI0 := n3_; clear n0_ n1_ n2_ n3_; (try clear hb); (try clear hb2); (try clear hk); (try clear hi)) | ((with_reducible refine gate_builtin (b := .append) (xs := #[.tmp 13, .tmp 16]) rfl ?_); at_builtin; refine Kd.R_append Kd.string w.heap.size rfl (.tmp 13) (.tmp 16) 28 9 (.string ⟨#[]⟩) 16 rfl Tryd.underlying28 info9 rfl (by decide) (by omega) u3 x3_1 t358 [.string t358] (fun _ => True) (fun _ => False) rfl rfl ?aP (fun _ hk => hk.elim) ?aF ?aO (Below.refl _ _) ?aS ?aL ?_; (case aP => exact rfl); (case aF => exact (fun _ _ => trivial)); (case aO => exact (by (with_reducible repeat (first | apply Kd.R_alloc | apply Kd.R_drewN | apply Kd.R_drew)); exact HO_3.out)); (case aS => exact (keep_size (w := w) (g := g) (row := none) (by repeat (first | (with_reducible first | exact HK.out | apply KeepBut.set_ | apply keep_drewN | apply keep_drew | apply keep_alloc) | exact HK.out)))); (case aL => have := LMc9.out; omega); intro v364 w13 ho hb hg hat; rw [← Ny363.out] at ho; have n0_ := Aside0.mk (IsS88.grown (by repeat (first | (with_reducible first | exact HI0.out | apply IsS88.alloc | apply IsS88.drewN | apply IsS88.drew | apply IsS88.set_0 | apply IsS88.set_1 | apply IsS88.set_2 | apply IsS88.set_3) | exact HI0.out)) hg (IsS88.own_ne HI0.out HO_3.out (by decide))); have n1_ := Aside0.mk (below_weaken (by repeat (first | (with_reducible first | exact HB.out | apply below_alloc | apply pw_below_drewN | apply below_drew1 | refine below_set ?_ (IsS88.ge HI0.out)) | exact HB.out)) HL.out hb); have n2_ := Aside0.mk (KeepBut.trans (by repeat (first | (with_reducible first | exact HK.out | apply KeepBut.set_ | apply keep_drewN | apply keep_drew | apply keep_alloc) | exact HK.out)) (KeepBut.of_grown hg g) (Kd.R_base2 HO_3.out)); have n3_ := Aside0.mk (ho); clear HI0; clear HB; clear HK; clear HO_3; have HI0 := n0_; have HB := n1_; have HK := n2_; have HO365 := n3_; clear n0_ n1_ n2_ n3_; clear ho hb hg hat))
      go_roundg k1
      case measure => have := HK1.out; omega
      case rel => exact ⟨(y363), (t359), (t360), (t361), (t362), H', ⟨by have := HK1.out; omega⟩, ⟨by (with_reducible repeat (first | apply Kd.R_alloc | apply Kd.R_drewN | apply Kd.R_drew)); exact HO365.out⟩, ⟨by repeat (first | (with_reducible first | exact HI0.out | apply IsS88.alloc | apply IsS88.drewN | apply IsS88.drew | apply IsS88.set_0 | apply IsS88.set_1 | apply IsS88.set_2 | apply IsS88.set_3) | exact HI0.out)⟩, ⟨by repeat (first | (with_reducible first | exact HK.out | apply KeepBut.set_ | apply keep_drewN | apply keep_drew | apply keep_alloc) | exact HK.out)⟩, ⟨by repeat (first | (with_reducible first | exact HB.out | apply below_alloc | apply pw_below_drewN | apply below_drew1 | refine below_set ?_ (IsS88.ge HI0.out)) | exact HB.out)⟩⟩
     ·rw [if_neg c9] at H
      exact absurd H (by simp)
    ·rw [if_neg c7] at H
     have c7b0 : (t353 == 0) = false := beq_eq_false_iff_ne.mpr c7
     have c7b1 : (t353 != 0) = true := bne_iff_ne.mpr c7
     replace H := Option.bind_eq_some_iff.mp H
     obtain ⟨⟨t366, t367, t368, t369⟩, A140, H⟩ := H
     replace H : (some (x3_1, t366, t367, t368, t369)) = some (r1, r2, r3, r4, r5) := H
     have A14 := Aside0.mk A140
     clear A140
     simp only [Option.some.injEq, Prod.mk.injEq] at H
     obtain ⟨rfl, rfl, rfl, rfl, rfl⟩ := H
     go_wp2_with (first | ((with_reducible refine gate_callee (f := 39) rfl ?_); refine goesL_ (some 7) rfl rfl Tryd.func39 (by kernel_rfl) rfl #[.pointer (some ⟨g, 0, none⟩)] rfl (by (try simp only [List.map_toArray, List.map_cons, List.map_nil]); first | done | rfl | (simp only [List.length_drop, List.length_take]; rfl)) ?_; (with_reducible refine (encode_Reader_More.calls g x1000_1 x1001_1 x1002_1 x1003_1 true t349 t350 t351 t352 w0 _ ?side1 ?side2 A4.out).mono ?_); (case side1 => repeat (first | (with_reducible first | exact HI0.out | apply IsS88.alloc | apply IsS88.drewN | apply IsS88.drew | apply IsS88.set_0 | apply IsS88.set_1 | apply IsS88.set_2 | apply IsS88.set_3) | exact HI0.out)); (case side2 => repeat (first | (with_reducible first | exact HB.out | apply below_alloc | apply pw_below_drewN | apply below_drew1 | refine below_set ?_ (IsS88.ge HI0.out)) | exact HB.out)); rintro e w15 ⟨rfl, hi, hb, hk⟩; refine ⟨_, rfl, ?_⟩; have n0_ := Aside0.mk (Kd.R_mono (Kd.R_keep (IsS88.apart (show IsS88 w0 _ g x1000_1 x1001_1 x1002_1 x1003_1 from by repeat (first | (with_reducible first | exact HI0.out | apply IsS88.alloc | apply IsS88.drewN | apply IsS88.drew | apply IsS88.set_0 | apply IsS88.set_1 | apply IsS88.set_2 | apply IsS88.set_3) | exact HI0.out)) (by (with_reducible repeat (first | apply Kd.R_alloc | apply Kd.R_drewN | apply Kd.R_drew)); exact HO_3.out) (by decide)) hk (fun _ h => h.2)) (fun _ h => h.1)); have n1_ := Aside0.mk (KeepBut.trans (by repeat (first | (with_reducible first | exact HK.out | apply KeepBut.set_ | apply keep_drewN | apply keep_drew | apply keep_alloc) | exact HK.out)) hk (.inl rfl)); have n2_ := Aside0.mk (hb); have n3_ := Aside0.mk (hi); clear HO_3; clear HK; clear HB; clear HI0; have HO_3 := n0_; have HK := n1_; have HB := n2_; have HI0 := n3_; clear n0_ n1_ n2_ n3_; (try clear hb); (try clear hb2); (try clear hk); (try clear hi)) | (go_at_call 40; (with_reducible refine (encode_Reader_Err.calls g t349 t350 t351 t352 t353 t354 t355 t356 t357 w0 _ ?side1 ?side2 A6.out).mono ?_); (case side1 => repeat (first | (with_reducible first | exact HI0.out | apply IsS88.alloc | apply IsS88.drewN | apply IsS88.drew | apply IsS88.set_0 | apply IsS88.set_1 | apply IsS88.set_2 | apply IsS88.set_3) | exact HI0.out)); (case side2 => repeat (first | (with_reducible first | exact HB.out | apply below_alloc | apply pw_below_drewN | apply below_drew1 | refine below_set ?_ (IsS88.ge HI0.out)) | exact HB.out)); rintro e w16 ⟨rfl, hi, hb, hk⟩; have n0_ := Aside0.mk (Kd.R_mono (Kd.R_keep (IsS88.apart (show IsS88 w0 _ g t349 t350 t351 t352 from by repeat (first | (with_reducible first | exact HI0.out | apply IsS88.alloc | apply IsS88.drewN | apply IsS88.drew | apply IsS88.set_0 | apply IsS88.set_1 | apply IsS88.set_2 | apply IsS88.set_3) | exact HI0.out)) (by (with_reducible repeat (first | apply Kd.R_alloc | apply Kd.R_drewN | apply Kd.R_drew)); exact HO_3.out) (by decide)) hk (fun _ h => h.2)) (fun _ h => h.1)); have n1_ := Aside0.mk (KeepBut.trans (by repeat (first | (with_reducible first | exact HK.out | apply KeepBut.set_ | apply keep_drewN | apply keep_drew | apply keep_alloc) | exact HK.out)) hk (.inl rfl)); have n2_ := Aside0.mk (hb); have n3_ := Aside0.mk (hi); clear HO_3; clear HK; clear HB; clear HI0; have HO_3 := n0_; have HK := n1_; have HB := n2_; have HI0 := n3_; clear n0_ n1_ n2_ n3_; (try clear hb); (try clear hb2); (try clear hk); (try clear hi)) | ((with_reducible refine gate_callee (f := 41) rfl ?_); refine goesL_ (some 19) rfl rfl Tryd.func41 (by kernel_rfl) rfl #[.pointer (some ⟨g, 0, none⟩)] rfl (by (try simp only [List.map_toArray, List.map_cons, List.map_nil]); first | done | rfl | (simp only [List.length_drop, List.length_take]; rfl)) ?_; (with_reducible refine (encode_Reader_Close.calls g t354 t355 t356 t357 t366 t367 t368 t369 w0 _ ?side1 ?side2 A14.out).mono ?_); (case side1 => repeat (first | (with_reducible first | exact HI0.out | apply IsS88.alloc | apply IsS88.drewN | apply IsS88.drew | apply IsS88.set_0 | apply IsS88.set_1 | apply IsS88.set_2 | apply IsS88.set_3) | exact HI0.out)); (case side2 => repeat (first | (with_reducible first | exact HB.out | apply below_alloc | apply pw_below_drewN | apply below_drew1 | refine below_set ?_ (IsS88.ge HI0.out)) | exact HB.out)); rintro e w17 ⟨rfl, hi, hb, hk⟩; refine ⟨_, rfl, ?_⟩; have n0_ := Aside0.mk (Kd.R_mono (Kd.R_keep (IsS88.apart (show IsS88 w0 _ g t354 t355 t356 t357 from by repeat (first | (with_reducible first | exact HI0.out | apply IsS88.alloc | apply IsS88.drewN | apply IsS88.drew | apply IsS88.set_0 | apply IsS88.set_1 | apply IsS88.set_2 | apply IsS88.set_3) | exact HI0.out)) (by (with_reducible repeat (first | apply Kd.R_alloc | apply Kd.R_drewN | apply Kd.R_drew)); exact HO_3.out) (by decide)) hk (fun _ h => h.2)) (fun _ h => h.1)); have n1_ := Aside0.mk (KeepBut.trans (by repeat (first | (with_reducible first | exact HK.out | apply KeepBut.set_ | apply keep_drewN | apply keep_drew | apply keep_alloc) | exact HK.out)) hk (.inl rfl)); have n2_ := Aside0.mk (hb); have n3_ := Aside0.mk (hi); clear HO_3; clear HK; clear HB; clear HI0; have HO_3 := n0_; have HK := n1_; have HB := n2_; have HI0 := n3_; clear n0_ n1_ n2_ n3_; (try clear hb); (try clear hb2); (try clear hk); (try clear hi)))
     go_ret
     exact ⟨_, by first | rfl | (simp [errW_none, errW_some] <;> rfl) | (simp [*, errW_none, errW_some] <;> rfl), by (with_reducible repeat (first | apply Kd.R_alloc | apply Kd.R_drewN | apply Kd.R_drew)); exact HO_3.out, by repeat (first | (with_reducible first | exact HI0.out | apply IsS88.alloc | apply IsS88.drewN | apply IsS88.drew | apply IsS88.set_0 | apply IsS88.set_1 | apply IsS88.set_2 | apply IsS88.set_3) | exact HI0.out), by repeat (first | (with_reducible first | exact HB.out | apply below_alloc | apply pw_below_drewN | apply below_drew1 | refine below_set ?_ (IsS88.ge HI0.out)) | exact HB.out), by repeat (first | (with_reducible first | exact HK.out | apply KeepBut.set_ | apply keep_drewN | apply keep_drew | apply keep_alloc) | exact HK.out)⟩
   ·replace c5 := Bool.eq_false_iff.mpr c5
    subst c5
    have H1 : ((encode_Reader_Close.f t349 t350 t351 t352).bind fun bt370 => (some (x3_1, bt370.1, bt370.2.1, bt370.2.2.1, bt370.2.2.2))) = some (r1, r2, r3, r4, r5) := by rw [if_neg (show ¬ (false = true) by decide)] at H; exact H
    clear H
    have H := H1
    clear H1
    replace H := Option.bind_eq_some_iff.mp H
    obtain ⟨⟨t370, t371, t372, t373⟩, A180, H⟩ := H
    replace H : (some (x3_1, t370, t371, t372, t373)) = some (r1, r2, r3, r4, r5) := H
    have A18 := Aside0.mk A180
    clear A180
    simp only [Option.some.injEq, Prod.mk.injEq] at H
    obtain ⟨rfl, rfl, rfl, rfl, rfl⟩ := H
    go_wp2_with (first | ((with_reducible refine gate_callee (f := 39) rfl ?_); refine goesL_ (some 7) rfl rfl Tryd.func39 (by kernel_rfl) rfl #[.pointer (some ⟨g, 0, none⟩)] rfl (by (try simp only [List.map_toArray, List.map_cons, List.map_nil]); first | done | rfl | (simp only [List.length_drop, List.length_take]; rfl)) ?_; (with_reducible refine (encode_Reader_More.calls g x1000_1 x1001_1 x1002_1 x1003_1 false t349 t350 t351 t352 w0 _ ?side1 ?side2 A4.out).mono ?_); (case side1 => repeat (first | (with_reducible first | exact HI0.out | apply IsS88.alloc | apply IsS88.drewN | apply IsS88.drew | apply IsS88.set_0 | apply IsS88.set_1 | apply IsS88.set_2 | apply IsS88.set_3) | exact HI0.out)); (case side2 => repeat (first | (with_reducible first | exact HB.out | apply below_alloc | apply pw_below_drewN | apply below_drew1 | refine below_set ?_ (IsS88.ge HI0.out)) | exact HB.out)); rintro e w19 ⟨rfl, hi, hb, hk⟩; refine ⟨_, rfl, ?_⟩; have n0_ := Aside0.mk (Kd.R_mono (Kd.R_keep (IsS88.apart (show IsS88 w0 _ g x1000_1 x1001_1 x1002_1 x1003_1 from by repeat (first | (with_reducible first | exact HI0.out | apply IsS88.alloc | apply IsS88.drewN | apply IsS88.drew | apply IsS88.set_0 | apply IsS88.set_1 | apply IsS88.set_2 | apply IsS88.set_3) | exact HI0.out)) (by (with_reducible repeat (first | apply Kd.R_alloc | apply Kd.R_drewN | apply Kd.R_drew)); exact HO_3.out) (by decide)) hk (fun _ h => h.2)) (fun _ h => h.1)); have n1_ := Aside0.mk (KeepBut.trans (by repeat (first | (with_reducible first | exact HK.out | apply KeepBut.set_ | apply keep_drewN | apply keep_drew | apply keep_alloc) | exact HK.out)) hk (.inl rfl)); have n2_ := Aside0.mk (hb); have n3_ := Aside0.mk (hi); clear HO_3; clear HK; clear HB; clear HI0; have HO_3 := n0_; have HK := n1_; have HB := n2_; have HI0 := n3_; clear n0_ n1_ n2_ n3_; (try clear hb); (try clear hb2); (try clear hk); (try clear hi)) | ((with_reducible refine gate_callee (f := 41) rfl ?_); refine goesL_ (some 19) rfl rfl Tryd.func41 (by kernel_rfl) rfl #[.pointer (some ⟨g, 0, none⟩)] rfl (by (try simp only [List.map_toArray, List.map_cons, List.map_nil]); first | done | rfl | (simp only [List.length_drop, List.length_take]; rfl)) ?_; (with_reducible refine (encode_Reader_Close.calls g t349 t350 t351 t352 t370 t371 t372 t373 w0 _ ?side1 ?side2 A18.out).mono ?_); (case side1 => repeat (first | (with_reducible first | exact HI0.out | apply IsS88.alloc | apply IsS88.drewN | apply IsS88.drew | apply IsS88.set_0 | apply IsS88.set_1 | apply IsS88.set_2 | apply IsS88.set_3) | exact HI0.out)); (case side2 => repeat (first | (with_reducible first | exact HB.out | apply below_alloc | apply pw_below_drewN | apply below_drew1 | refine below_set ?_ (IsS88.ge HI0.out)) | exact HB.out)); rintro e w20 ⟨rfl, hi, hb, hk⟩; refine ⟨_, rfl, ?_⟩; have n0_ := Aside0.mk (Kd.R_mono (Kd.R_keep (IsS88.apart (show IsS88 w0 _ g t349 t350 t351 t352 from by repeat (first | (with_reducible first | exact HI0.out | apply IsS88.alloc | apply IsS88.drewN | apply IsS88.drew | apply IsS88.set_0 | apply IsS88.set_1 | apply IsS88.set_2 | apply IsS88.set_3) | exact HI0.out)) (by (with_reducible repeat (first | apply Kd.R_alloc | apply Kd.R_drewN | apply Kd.R_drew)); exact HO_3.out) (by decide)) hk (fun _ h => h.2)) (fun _ h => h.1)); have n1_ := Aside0.mk (KeepBut.trans (by repeat (first | (with_reducible first | exact HK.out | apply KeepBut.set_ | apply keep_drewN | apply keep_drew | apply keep_alloc) | exact HK.out)) hk (.inl rfl)); have n2_ := Aside0.mk (hb); have n3_ := Aside0.mk (hi); clear HO_3; clear HK; clear HB; clear HI0; have HO_3 := n0_; have HK := n1_; have HB := n2_; have HI0 := n3_; clear n0_ n1_ n2_ n3_; (try clear hb); (try clear hb2); (try clear hk); (try clear hi)))
    go_ret
    exact ⟨_, by first | rfl | (simp [errW_none, errW_some] <;> rfl) | (simp [*, errW_none, errW_some] <;> rfl), by (with_reducible repeat (first | apply Kd.R_alloc | apply Kd.R_drewN | apply Kd.R_drew)); exact HO_3.out, by repeat (first | (with_reducible first | exact HI0.out | apply IsS88.alloc | apply IsS88.drewN | apply IsS88.drew | apply IsS88.set_0 | apply IsS88.set_1 | apply IsS88.set_2 | apply IsS88.set_3) | exact HI0.out), by repeat (first | (with_reducible first | exact HB.out | apply below_alloc | apply pw_below_drewN | apply below_drew1 | refine below_set ?_ (IsS88.ge HI0.out)) | exact HB.out), by repeat (first | (with_reducible first | exact HK.out | apply KeepBut.set_ | apply keep_drewN | apply keep_drew | apply keep_alloc) | exact HK.out)⟩
end Go.Proofs.YtfpopmojlmpopaaDoor.G

end
section
namespace Go.Proofs.YtfpopmojlmpopaaDoor.G
open Go.RowKit Go.Proofs.YtfpopmojlmpopaaDoorW.PrintWords Go.Proofs.YtfpopmojlmpopaaDoorW.PrintLast Go.Proofs.YtfpopmojlmpopaaDoorW.PrintMore
attribute [local go_sem] max2_int min2_int max_two min_two max_three min_three max_four min_four
set_option linter.unusedVariables false
set_option linter.unusedSimpArgs false
def encode_NewReader.f (a0 : ByteArray) : Option (ByteArray × Int × Int × Int) := some (a0, 0, 0, 0)
set_option maxHeartbeats 8000000 in
set_option maxRecDepth 100000 in
theorem encode_NewReader.calls (a0 : ByteArray) (r1 : ByteArray) (r2 : Int) (r3 : Int) (r4 : Int) (w0 w : World) (hB : Below w0.heap.size w0 w) (h : encode_NewReader.f a0 = some (r1, r2, r3, r4)) :
  Calls Tryd.prog 35 #[.string a0] w fun e w' => ∃ g_ : Nat, e = .returned (.pointer (some ⟨g_, 0, none⟩)) ∧ IsS88 w0 w' g_ r1 r2 r3 r4 ∧ Below w0.heap.size w0 w' ∧ Below w.heap.size w w' := by
 have hu88 := Tryd.underlying88
 have HBW := Aside0.mk (Below.refl w.heap.size w)
 have HW0 := Aside0.mk hB.size
 have HB := Aside0.mk hB
 clear hB
 have H : (some (a0, 0, 0, 0)) = some (r1, r2, r3, r4) := h
 clear h
 simp only [Option.some.injEq, Prod.mk.injEq] at H
 obtain ⟨rfl, rfl, rfl, rfl⟩ := H
 go_enter Tryd.func35, Tryd.ntmps35
 go_wp2_with (first | ((with_reducible refine gate_dst (N := 5) rfl ?_); refine box_event ?hg (N := 5) ?hd (cs := #[.string a0, .int .i64 0, .int .i64 0, .int .i64 0]) (t := 88) ?hr ?_; (case hd => rfl); (case hg => rfl); (case hr => first | (go_simp; done) | (go_simp; rfl)); intro gb374 hg w2 hbox hb; have n0_ := Aside0.mk (below_step HBW.out hb); have n1_ := Aside0.mk (below_step (by repeat (first | (with_reducible first | exact HB.out | apply below_alloc | apply pw_below_drewN | apply below_drew1) | exact HB.out)) hb); have n2_ := Aside0.mk (hbox); have n3_ := Aside0.mk ((by rw [hg]; exact (below_size (by repeat (first | (with_reducible first | exact HBW.out | apply below_alloc | apply pw_below_drewN | apply below_drew1) | exact HBW.out))) : w.heap.size ≤ gb374)); have n4_ := Aside0.mk ((Nat.le_trans HW0.out (by rw [hg]; exact (below_size (by repeat (first | (with_reducible first | exact HBW.out | apply below_alloc | apply pw_below_drewN | apply below_drew1) | exact HBW.out))) : w.heap.size ≤ gb374) : w0.heap.size ≤ gb374)); clear HBW; clear HB; have HBW := n0_; have HB := n1_; have BK374 := n2_; have GW374 := n3_; have GE374 := n4_; clear n0_ n1_ n2_ n3_ n4_; clear hb hbox hg))
 go_ret
 exact ⟨_, rfl, (show IsS88 w0 _ gb374 a0 0 0 0 from ⟨by (with_reducible repeat (first | refine blk_drewN ?_ _ | refine blk_drew ?_ | refine blk_alloc ?_ _)); exact BK374.out, GE374.out⟩), by repeat (first | (with_reducible first | exact HB.out | apply below_alloc | apply pw_below_drewN | apply below_drew1 | refine below_set ?_ GE374.out) | exact HB.out), by repeat (first | (with_reducible first | exact HBW.out | apply below_alloc | apply pw_below_drewN | apply below_drew1 | refine below_set ?_ GW374.out) | exact HBW.out)⟩
end Go.Proofs.YtfpopmojlmpopaaDoor.G

end
section
namespace Go.Proofs.YtfpopmojlmpopaaDoor.H
open Go.RowKit Go.Proofs.YtfpopmojlmpopaaDoorW.PrintWords Go.Proofs.YtfpopmojlmpopaaDoorW.PrintLast Go.Proofs.YtfpopmojlmpopaaDoorW.PrintMore Go.Proofs.YtfpopmojlmpopaaDoor.G
set_option linter.unusedVariables false
set_option linter.unusedSimpArgs false
abbrev St := ByteArray × Int × Int × Int
def rdInt (t : St) : Option (Int × St) := encode_Reader_Int.f t.1 t.2.1 t.2.2.1 t.2.2.2
def rdOpen (t : St) : Option St := encode_Reader_Open.f t.1 t.2.1 t.2.2.1 t.2.2.2
def rdClose (t : St) : Option St := encode_Reader_Close.f t.1 t.2.1 t.2.2.1 t.2.2.2
def rdMore (t : St) : Option (Bool × St) := encode_Reader_More.f t.1 t.2.1 t.2.2.1 t.2.2.2
def rdErr (t : St) : Option (Int × St) := encode_Reader_Err.f t.1 t.2.1 t.2.2.1 t.2.2.2
def rdEnd (t : St) : Option (Int × St) := encode_Reader_End.f t.1 t.2.1 t.2.2.1 t.2.2.2
def rdLines (K : Nat) (t : St) : Option (List ByteArray × St) := frame_getLines.f K t.1 t.2.1 t.2.2.1 t.2.2.2
def rdEdit (K : Nat) (t : St) : Option (S52 × St) :=
 (rdOpen t).bind fun t1 => (rdInt t1).bind fun a => (rdInt a.2).bind fun d => (rdLines K d.2).bind fun l => (rdClose l.2).bind fun t2 => some (⟨a.1, d.1, l.1⟩, t2)
def edLoop (K : Nat) : Nat → List S52 → St → Option (List S52 × St)
 | 0, _, _ => none
 | k + 1, es, t => (rdMore t).bind fun m => if m.1 = true then (rdErr m.2).bind fun er => if er.1 = 0 then (rdEdit K er.2).bind fun x => if es.length < 1000000000000 then edLoop K k (es ++ [x.1]) x.2 else none else some (es, er.2) else some (es, m.2)
def decBody (K : Nat) (s : ByteArray) : Option (Int × Int × Int × Int × Int × List ByteArray × List S52 × Int) :=
 (rdOpen (s, 0, 0, 0)).bind fun t => (rdInt t).bind fun a0 => (rdInt a0.2).bind fun a1 => (rdInt a1.2).bind fun a2 => (rdInt a2.2).bind fun a3 => (rdInt a3.2).bind fun a4 =>
 (rdLines K a4.2).bind fun ls => (rdOpen ls.2).bind fun t => (edLoop K K [] t).bind fun es => (rdClose es.2).bind fun t => (rdClose t).bind fun t => (rdEnd t).bind fun e =>
 if e.1 = 0 then (frame_Check.f K a0.1 a1.1 a2.1 a3.1 a4.1 ls.1 es.1).bind fun c => if c = 0 then some (a0.1, a1.1, a2.1, a3.1, a4.1, ls.1, es.1, 0) else some (0, 0, 0, 0, 0, [], [], 2)
 else some (0, 0, 0, 0, 0, [], [], 2)
def frame_Decode.f (K : Nat) (l0 : List Int) : Option (Int × Int × Int × Int × Int × List ByteArray × List S52 × Int) :=
 if l0.length < 4 then some (0, 0, 0, 0, 0, [], [], 12)
 else (frame_Sum.f (l0.take (l0.length - 4))).bind fun c => if digs c = l0.drop (l0.length - 4) then decBody K (strOfNums (l0.take (l0.length - 4))) else some (0, 0, 0, 0, 0, [], [], 12)
def zF : Array Value := #[.int .i64 0, .int .i64 0, .int .i64 0, .int .i64 0, .int .i64 0, .slice none 0 0, .slice none 0 0]
structure DS (w : World) (X : Nat → Prop) (gf gr : Nat) (t : St) (a0 a1 a2 a3 a4 : Int) (vl : Value) (ls : List ByteArray) (ve : Value) (es : List S52) (W : World) : Prop where
 hI : IsS88 w W gr t.1 t.2.1 t.2.2.1 t.2.2.2
 hB : Below w.heap.size w W
 hF : W.heap[gf]? = some (.cells #[.int .i64 a0, .int .i64 a1, .int .i64 a2, .int .i64 a3, .int .i64 a4, vl, ve] 31 (0, 0))
 hQ : W.heap[w.heap.size]? = some (.cells zF 31 (0, 0))
 hG : w.heap.size < gf
 hL : Kd.R Kd.string 9 W w.heap.size (fun _ => True) vl ls
 hE : Kd.R k52 52 W w.heap.size X ve es
section
variable {w W W' : World} {X : Nat → Prop} {gf gr : Nat} {t t' : St} {a0 a1 a2 a3 a4 : Int} {vl ve : Value} {ls : List ByteArray} {es : List S52}
theorem DS.ge (h : DS w X gf gr t a0 a1 a2 a3 a4 vl ls ve es W) : w.heap.size ≤ gr := IsS88.ge h.hI
theorem DS.keep (h : DS w X gf gr t a0 a1 a2 a3 a4 vl ls ve es W) (hI : IsS88 w W' gr t'.1 t'.2.1 t'.2.2.1 t'.2.2.2) (hB : Below w.heap.size w W') (hK : KeepBut W W' gr none) : DS w X gf gr t' a0 a1 a2 a3 a4 vl ls ve es W' := by
 obtain ⟨hI0, hB0, hF, hQ, hG, hL, hE⟩ := h
 have hgr : W.heap[gr]? = some (.cells #[.string t.1, .int .i64 t.2.1, .int .i64 t.2.2.1, .int .i64 t.2.2.2] 88 (0, 0)) := hI0.1
 refine ⟨hI, hB, hK.blk hF (fun e => ?_) (by simp), hK.blk hQ (fun e => ?_) (by simp), hG, ?_, ?_⟩
 ·exact IsS88.ne_blk hI0 hF (by decide) e.symm
 ·exact IsS88.ne_blk hI0 hQ (by decide) e.symm
 ·exact Kd.R_mono (Kd.R_keep (Kd.R_types hL hgr (by decide)) hK (fun _ h => h.2)) (fun _ h => h.1)
 ·exact Kd.R_mono (Kd.R_keep (Kd.R_types hE hgr (by decide)) hK (fun _ h => h.2)) (fun _ h => h.1)
theorem DS.drewN (h : DS w X gf gr t a0 a1 a2 a3 a4 vl ls ve es W) (n : Nat) : DS w X gf gr t a0 a1 a2 a3 a4 vl ls ve es (W.drewN n) := ⟨h.hI, pw_below_drewN h.hB n, h.hF, h.hQ, h.hG, Kd.R_drewN h.hL n, Kd.R_drewN h.hE n⟩
theorem DS.gfne (h : DS w X gf gr t a0 a1 a2 a3 a4 vl ls ve es W) : gr ≠ gf := IsS88.ne_blk h.hI h.hF (by decide)
theorem DS.set0 (h : DS w X gf gr t a0 a1 a2 a3 a4 vl ls ve es W) (x : Int) : DS w X gf gr t x a1 a2 a3 a4 vl ls ve es (W.setCell ⟨gf, 0, none⟩ (.int .i64 x)) := ⟨IsS88.far h.hI h.gfne _, below_set h.hB (Nat.le_of_lt h.hG), by simpa using blk_set h.hF 0 (.int .i64 x), blk_far h.hQ (Nat.ne_of_lt h.hG) _, h.hG, Kd.R_set h.hL h.hF (by decide) _ _, Kd.R_set h.hE h.hF (by decide) _ _⟩
theorem DS.set1 (h : DS w X gf gr t a0 a1 a2 a3 a4 vl ls ve es W) (x : Int) : DS w X gf gr t a0 x a2 a3 a4 vl ls ve es (W.setCell ⟨gf, 1, none⟩ (.int .i64 x)) := ⟨IsS88.far h.hI h.gfne _, below_set h.hB (Nat.le_of_lt h.hG), by simpa using blk_set h.hF 1 (.int .i64 x), blk_far h.hQ (Nat.ne_of_lt h.hG) _, h.hG, Kd.R_set h.hL h.hF (by decide) _ _, Kd.R_set h.hE h.hF (by decide) _ _⟩
theorem DS.set2 (h : DS w X gf gr t a0 a1 a2 a3 a4 vl ls ve es W) (x : Int) : DS w X gf gr t a0 a1 x a3 a4 vl ls ve es (W.setCell ⟨gf, 2, none⟩ (.int .i64 x)) := ⟨IsS88.far h.hI h.gfne _, below_set h.hB (Nat.le_of_lt h.hG), by simpa using blk_set h.hF 2 (.int .i64 x), blk_far h.hQ (Nat.ne_of_lt h.hG) _, h.hG, Kd.R_set h.hL h.hF (by decide) _ _, Kd.R_set h.hE h.hF (by decide) _ _⟩
theorem DS.set3 (h : DS w X gf gr t a0 a1 a2 a3 a4 vl ls ve es W) (x : Int) : DS w X gf gr t a0 a1 a2 x a4 vl ls ve es (W.setCell ⟨gf, 3, none⟩ (.int .i64 x)) := ⟨IsS88.far h.hI h.gfne _, below_set h.hB (Nat.le_of_lt h.hG), by simpa using blk_set h.hF 3 (.int .i64 x), blk_far h.hQ (Nat.ne_of_lt h.hG) _, h.hG, Kd.R_set h.hL h.hF (by decide) _ _, Kd.R_set h.hE h.hF (by decide) _ _⟩
theorem DS.set4 (h : DS w X gf gr t a0 a1 a2 a3 a4 vl ls ve es W) (x : Int) : DS w X gf gr t a0 a1 a2 a3 x vl ls ve es (W.setCell ⟨gf, 4, none⟩ (.int .i64 x)) := ⟨IsS88.far h.hI h.gfne _, below_set h.hB (Nat.le_of_lt h.hG), by simpa using blk_set h.hF 4 (.int .i64 x), blk_far h.hQ (Nat.ne_of_lt h.hG) _, h.hG, Kd.R_set h.hL h.hF (by decide) _ _, Kd.R_set h.hE h.hF (by decide) _ _⟩
theorem DS.setL (h : DS w X gf gr t a0 a1 a2 a3 a4 vl ls ve es W) {v : Value} {l : List ByteArray} (hv : Kd.R Kd.string 9 W w.heap.size (fun _ => True) v l) : DS w X gf gr t a0 a1 a2 a3 a4 v l ve es (W.setCell ⟨gf, 5, none⟩ v) := ⟨IsS88.far h.hI h.gfne _, below_set h.hB (Nat.le_of_lt h.hG), by simpa using blk_set h.hF 5 v, blk_far h.hQ (Nat.ne_of_lt h.hG) _, h.hG, Kd.R_set hv h.hF (by decide) _ _, Kd.R_set h.hE h.hF (by decide) _ _⟩
theorem DS.setE (h : DS w X gf gr t a0 a1 a2 a3 a4 vl ls ve es W) {X' : Nat → Prop} {v : Value} {l : List S52} (hv : Kd.R k52 52 W w.heap.size X' v l) : DS w X' gf gr t a0 a1 a2 a3 a4 vl ls v l (W.setCell ⟨gf, 6, none⟩ v) := ⟨IsS88.far h.hI h.gfne _, below_set h.hB (Nat.le_of_lt h.hG), by simpa using blk_set h.hF 6 v, blk_far h.hQ (Nat.ne_of_lt h.hG) _, h.hG, Kd.R_set h.hL h.hF (by decide) _ _, Kd.R_set hv h.hF (by decide) _ _⟩
theorem DS.allocX (h : DS w X gf gr t a0 a1 a2 a3 a4 vl ls ve es W) (o : Obj) : DS w (fun k => k ≠ W.heap.size) gf gr t a0 a1 a2 a3 a4 vl ls ve es (W.alloc o) :=
 ⟨IsS88.alloc h.hI o, below_alloc h.hB o, blk_alloc h.hF o, blk_alloc h.hQ o, h.hG, Kd.R_alloc h.hL o, Kd.R_mono (Kd.R_alloc (Kd.R_bound h.hE) o) (fun k hk => by have := hk.2.2.1; omega)⟩
theorem DS.open_ (h : DS w X gf gr t a0 a1 a2 a3 a4 vl ls ve es W) (ho : rdOpen t = some t') :
  Calls Tryd.prog 36 #[.pointer (some ⟨gr, 0, none⟩)] W fun e w' => e = .returned (.tuple #[]) ∧ DS w X gf gr t' a0 a1 a2 a3 a4 vl ls ve es w' ∧ KeepBut W w' gr none :=
 (encode_Reader_Open.calls gr t.1 t.2.1 t.2.2.1 t.2.2.2 t'.1 t'.2.1 t'.2.2.1 t'.2.2.2 w W h.hI h.hB ho).mono (by rintro e w' ⟨rfl, hi, hb, hk⟩; exact ⟨rfl, h.keep hi hb hk, hk⟩)
theorem DS.close (h : DS w X gf gr t a0 a1 a2 a3 a4 vl ls ve es W) (ho : rdClose t = some t') :
  Calls Tryd.prog 41 #[.pointer (some ⟨gr, 0, none⟩)] W fun e w' => e = .returned (.tuple #[]) ∧ DS w X gf gr t' a0 a1 a2 a3 a4 vl ls ve es w' ∧ KeepBut W w' gr none :=
 (encode_Reader_Close.calls gr t.1 t.2.1 t.2.2.1 t.2.2.2 t'.1 t'.2.1 t'.2.2.1 t'.2.2.2 w W h.hI h.hB ho).mono (by rintro e w' ⟨rfl, hi, hb, hk⟩; exact ⟨rfl, h.keep hi hb hk, hk⟩)
theorem DS.more {b : Bool} (h : DS w X gf gr t a0 a1 a2 a3 a4 vl ls ve es W) (ho : rdMore t = some (b, t')) :
  Calls Tryd.prog 39 #[.pointer (some ⟨gr, 0, none⟩)] W fun e w' => e = .returned (.bool b) ∧ DS w X gf gr t' a0 a1 a2 a3 a4 vl ls ve es w' ∧ KeepBut W w' gr none :=
 (encode_Reader_More.calls gr t.1 t.2.1 t.2.2.1 t.2.2.2 b t'.1 t'.2.1 t'.2.2.1 t'.2.2.2 w W h.hI h.hB ho).mono (by rintro e w' ⟨rfl, hi, hb, hk⟩; exact ⟨rfl, h.keep hi hb hk, hk⟩)
theorem DS.err {b : Int} (h : DS w X gf gr t a0 a1 a2 a3 a4 vl ls ve es W) (ho : rdErr t = some (b, t')) :
  Calls Tryd.prog 40 #[.pointer (some ⟨gr, 0, none⟩)] W fun e w' => e = .returned (.int .i64 b) ∧ DS w X gf gr t' a0 a1 a2 a3 a4 vl ls ve es w' ∧ KeepBut W w' gr none :=
 (encode_Reader_Err.calls gr t.1 t.2.1 t.2.2.1 t.2.2.2 b t'.1 t'.2.1 t'.2.2.1 t'.2.2.2 w W h.hI h.hB ho).mono (by rintro e w' ⟨rfl, hi, hb, hk⟩; exact ⟨rfl, h.keep hi hb hk, hk⟩)
theorem DS.end_ {b : Int} (h : DS w X gf gr t a0 a1 a2 a3 a4 vl ls ve es W) (ho : rdEnd t = some (b, t')) :
  Calls Tryd.prog 42 #[.pointer (some ⟨gr, 0, none⟩)] W fun e w' => e = .returned (.int .i64 b) ∧ DS w X gf gr t' a0 a1 a2 a3 a4 vl ls ve es w' ∧ KeepBut W w' gr none :=
 (encode_Reader_End.calls gr t.1 t.2.1 t.2.2.1 t.2.2.2 b t'.1 t'.2.1 t'.2.2.1 t'.2.2.2 w W h.hI h.hB ho).mono (by rintro e w' ⟨rfl, hi, hb, hk⟩; exact ⟨rfl, h.keep hi hb hk, hk⟩)
theorem DS.int_ {b : Int} (h : DS w X gf gr t a0 a1 a2 a3 a4 vl ls ve es W) (hLd : Laid w) (ho : rdInt t = some (b, t')) :
  Calls Tryd.prog 37 #[.pointer (some ⟨gr, 0, none⟩)] W fun e w' => e = .returned (.int .i64 b) ∧ DS w X gf gr t' a0 a1 a2 a3 a4 vl ls ve es w' ∧ KeepBut W w' gr none :=
 (encode_Reader_Int.calls gr t.1 t.2.1 t.2.2.1 t.2.2.2 b t'.1 t'.2.1 t'.2.2.1 t'.2.2.2 w W hLd h.hI h.hB ho).mono (by rintro e w' ⟨rfl, hi, hb, hk⟩; exact ⟨rfl, h.keep hi hb hk, hk⟩)
theorem DS.lines {K : Nat} {l : List ByteArray} (h : DS w X gf gr t a0 a1 a2 a3 a4 vl ls ve es W) (hLd : Laid w) (ho : rdLines K t = some (l, t')) :
  Calls Tryd.prog 38 #[.pointer (some ⟨gr, 0, none⟩)] W fun e w' => ∃ v, e = .returned v ∧ Kd.R Kd.string 9 w' w.heap.size (fun _ => True) v l ∧ DS w X gf gr t' a0 a1 a2 a3 a4 vl ls ve es w' ∧ KeepBut W w' gr none :=
 (frame_getLines.calls K gr t.1 t.2.1 t.2.2.1 t.2.2.2 l t'.1 t'.2.1 t'.2.2.1 t'.2.2.2 w W hLd h.hI h.hB ho).mono (by rintro e w' ⟨v, rfl, hr, hi, hb, hk⟩; exact ⟨v, rfl, Kd.R_lower hr h.hB.size, h.keep hi hb hk, hk⟩)
structure DX (w : World) (gx : Nat) (x0 x1 : Int) (vx : Value) (lx : List ByteArray) (W : World) : Prop where
 hX : W.heap[gx]? = some (.cells #[.int .i64 x0, .int .i64 x1, vx] 52 (0, 0))
 hV : Kd.R Kd.string 9 W w.heap.size (fun _ => True) vx lx
 hg : w.heap.size ≤ gx
variable {gx : Nat} {x0 x1 : Int} {vx : Value} {lx : List ByteArray}
theorem DX.keep (h : DX w gx x0 x1 vx lx W) (hd : DS w X gf gr t a0 a1 a2 a3 a4 vl ls ve es W) (hK : KeepBut W W' gr none) : DX w gx x0 x1 vx lx W' := by
 have hgr : W.heap[gr]? = some (.cells #[.string t.1, .int .i64 t.2.1, .int .i64 t.2.2.1, .int .i64 t.2.2.2] 88 (0, 0)) := hd.hI.1
 exact ⟨hK.blk h.hX (fun e => IsS88.ne_blk hd.hI h.hX (by decide) e.symm) (by simp), Kd.R_mono (Kd.R_keep (Kd.R_types h.hV hgr (by decide)) hK (fun _ h => h.2)) (fun _ h => h.1), h.hg⟩
theorem DX.set0 (h : DX w gx x0 x1 vx lx W) (x : Int) : DX w gx x x1 vx lx (W.setCell ⟨gx, 0, none⟩ (.int .i64 x)) := ⟨by simpa using blk_set h.hX 0 (.int .i64 x), Kd.R_set h.hV h.hX (by decide) _ _, h.hg⟩
theorem DX.set1 (h : DX w gx x0 x1 vx lx W) (x : Int) : DX w gx x0 x vx lx (W.setCell ⟨gx, 1, none⟩ (.int .i64 x)) := ⟨by simpa using blk_set h.hX 1 (.int .i64 x), Kd.R_set h.hV h.hX (by decide) _ _, h.hg⟩
theorem DX.set2 (h : DX w gx x0 x1 vx lx W) {v : Value} {l : List ByteArray} (hv : Kd.R Kd.string 9 W w.heap.size (fun _ => True) v l) : DX w gx x0 x1 v l (W.setCell ⟨gx, 2, none⟩ v) := ⟨by simpa using blk_set h.hX 2 v, Kd.R_set hv h.hX (by decide) _ _, h.hg⟩
theorem DS.setX (h : DS w (fun k => k ≠ gx) gf gr t a0 a1 a2 a3 a4 vl ls ve es W) (hx : DX w gx x0 x1 vx lx W) (j : Nat) (u : Value) : DS w (fun k => k ≠ gx) gf gr t a0 a1 a2 a3 a4 vl ls ve es (W.setCell ⟨gx, j, none⟩ u) :=
 ⟨IsS88.far h.hI (IsS88.ne_blk h.hI hx.hX (by decide)) u, below_set h.hB hx.hg, blk_far h.hF (blk_ne h.hF hx.hX (by decide)) u, blk_far h.hQ (blk_ne h.hQ hx.hX (by decide)) u, h.hG, Kd.R_set h.hL hx.hX (by decide) _ _, Kd.R_far h.hE (fun _ hk => hk) u⟩
theorem own_52 {W : World} {b : Nat} {v : Value} {X : Nat → Prop} {l : List S52} (h : Kd.R k52 52 W b X v l) (k : Nat) (hk : v.ownBlock = some k) : ∃ cells, W.heap[k]? = some (.cells cells 52 (0, 0)) := by
 obtain ⟨inner, ho⟩ := Kd.R_own h
 exact own_typed ho k hk
theorem DS.appended {W1 : World} {v1 : Value} (h : DS w (fun k => k ≠ gx) gf gr t a0 a1 a2 a3 a4 vl ls ve es W) (hg : W.grownBy W1 ve.ownBlock) (hb : Below w.heap.size w W1) {l : List S52} (hv : Kd.R k52 52 W1 w.heap.size (fun k => k ≠ gx) v1 l) :
  DS w (fun _ => True) gf gr t a0 a1 a2 a3 a4 vl ls v1 l (W1.setCell ⟨gf, 6, none⟩ v1) := by
 have ht : ∀ k cs q, W.heap[k]? = some (.cells cs q (0, 0)) → q ≠ 52 → some k ≠ ve.ownBlock := by
  intro k cs q hk hq he
  obtain ⟨cells, hc⟩ := own_52 h.hE k he.symm
  rw [hk] at hc
  injection hc with hc; injection hc with _ h2 _
  exact hq h2
 have hd : DS w (fun k => k ≠ gx) gf gr t a0 a1 a2 a3 a4 vl ls v1 l W1 → DS w (fun _ => True) gf gr t a0 a1 a2 a3 a4 vl ls v1 l (W1.setCell ⟨gf, 6, none⟩ v1) := fun h' => h'.setE (Kd.R_mono hv (fun _ _ => trivial))
 have hL1 : Kd.R Kd.string 9 W1 w.heap.size (fun _ => True) vl ls := Kd.R_mono (Kd.R_grown (Kd.R_bound h.hL) hg (fun k hk => by
  obtain ⟨_, _, _, q, hq, cells, hc⟩ := hk
  exact ht k cells q hc (by simp [Kd.string, Kd.scalar] at hq; subst hq; decide))) (fun _ _ => trivial)
 refine ⟨IsS88.far (IsS88.grown h.hI hg (ht _ _ _ h.hI.1 (by decide))) ?_ _, below_set hb (Nat.le_of_lt h.hG), by simpa using blk_set (blk_grown h.hF hg (ht _ _ _ h.hF (by decide))) 6 v1, blk_far (blk_grown h.hQ hg (ht _ _ _ h.hQ (by decide))) (Nat.ne_of_lt h.hG) _, h.hG, ?_, ?_⟩
 ·exact h.gfne
 ·exact Kd.R_set hL1 (blk_grown h.hF hg (ht _ _ _ h.hF (by decide))) (by decide) _ _
 ·exact Kd.R_mono (Kd.R_set hv (blk_grown h.hF hg (ht _ _ _ h.hF (by decide))) (by decide) _ _) (fun _ _ => trivial)
theorem DS.grownF {W1 : World} (h : DS w X gf gr t a0 a1 a2 a3 a4 vl ls ve es W) (hg : W.grownBy W1 ve.ownBlock) : W1.heap[gf]? = some (.cells #[.int .i64 a0, .int .i64 a1, .int .i64 a2, .int .i64 a3, .int .i64 a4, vl, ve] 31 (0, 0)) :=
 blk_grown h.hF hg (fun he => by
  obtain ⟨cells, hc⟩ := own_52 h.hE gf he.symm
  rw [h.hF] at hc
  injection hc with hc; injection hc with _ h2 _
  exact absurd h2 (by decide))
theorem DS.elem (h : DS w (fun k => k ≠ gx) gf gr t a0 a1 a2 a3 a4 vl ls ve es W) (hx : DX w gx x0 x1 vx lx W) : ∃ okp : Nat → Prop, k52.M W w.heap.size okp ⟨x0, x1, lx⟩ [.int .i64 x0, .int .i64 x1, vx] ∧ ∀ k, okp k → k ≠ gx ∧ some k ≠ ve.ownBlock := by
 refine ⟨_, k52_mkM W w.heap.size _ ⟨x0, x1, lx⟩ (Kd.R_bound hx.hV), fun k hk => ?_⟩
 obtain ⟨_, _, _, q, hq, cells, hc⟩ := hk
 have hq9 : q = 9 := by simpa [Kd.string, Kd.scalar] using hq
 subst hq9
 constructor
 ·rintro rfl
  rw [hx.hX] at hc
  injection hc with hc; injection hc with _ h2 _
  exact absurd h2 (by decide)
 ·intro he
  obtain ⟨cells', hc'⟩ := own_52 h.hE k he.symm
  rw [hc] at hc'
  injection hc' with hc'; injection hc' with _ h2 _
  exact absurd h2 (by decide)
end
end Go.Proofs.YtfpopmojlmpopaaDoor.H

end
section
namespace Go.Proofs.YtfpopmojlmpopaaDoor.H
open Go.RowKit Go.Proofs.YtfpopmojlmpopaaDoorW.PrintWords Go.Proofs.YtfpopmojlmpopaaDoorW.PrintLast Go.Proofs.YtfpopmojlmpopaaDoorW.PrintMore
set_option linter.unusedVariables false
set_option linter.unusedSimpArgs false
def IsW (B : Nat) (w : World) (g : Nat) (l : List Int) (n : Int) : Prop := B ≤ g ∧ ∃ v, w.heap[g]? = some (.cells #[v, .int .i64 n] 57 (0, 0)) ∧ w.ownsRow B 5 1 v l.length (nums .u8 l)
def WK (B g : Nat) (w w' : World) : Prop := Below B w w' ∧ Lib.OthersKept 5 (some g) w w'
theorem WK.refl (B g : Nat) (w : World) : WK B g w w := ⟨Below.refl _ _, Lib.OthersKept.refl _ _ _⟩
theorem WK.trans {B g : Nat} {a b c : World} (h : WK B g a b) (k : WK B g b c) : WK B g a c := ⟨h.1.trans k.1, h.2.trans k.2⟩
theorem WK.alloc {B g : Nat} {a w : World} (h : WK B g a w) (hB : B ≤ w.heap.size) (o : Obj) : WK B g a (w.alloc o) := ⟨h.1.alloc hB o, h.2.alloc o⟩
theorem WK.setW {B g : Nat} {a w : World} (h : WK B g a w) (hB : B ≤ g) (j : Nat) (u : Value) : WK B g a (w.setCell ⟨g, j, none⟩ u) := ⟨h.1.setCell hB u, h.2.setCell _ rfl u⟩
theorem WK.grown {B g : Nat} {a w w1 : World} (h : WK B g a w) (hB : B ≤ w.heap.size) {v : Value} {n : Nat} {xs : List Value} (ho : w.ownsRow B 5 1 v n xs) (hg : w.grownBy w1 v.ownBlock) : WK B g a w1 :=
 ⟨h.1.grown hg hB (fun k hk => own_base ho k hk), h.2.grown hg (fun k hk => by obtain ⟨c, hc⟩ := own_typed ho k hk; exact ⟨c, _, hc⟩)⟩
theorem WK.below {B g : Nat} {a w w1 : World} (h : WK B g a w) (hB : B ≤ w.heap.size) (hb : Below w.heap.size w w1) : WK B g a w1 := ⟨h.1.trans (hb.mono hB), h.2.below hb⟩
theorem WK.blk {B g : Nat} {w w1 : World} (h : WK B g w w1) {g' t : Nat} {cs : Array Value} (hb : w.heap[g']? = some (.cells cs t (0, 0))) (hg : g' ≠ g) (ht : t ≠ 5) : w1.heap[g']? = some (.cells cs t (0, 0)) :=
 h.2 g' _ hb (fun e => hg (Option.some.inj e)) (fun c fz e => ht (by injection e))
theorem IsW.alloc {B g : Nat} {w : World} {l : List Int} {n : Int} (h : IsW B w g l n) (o : Obj) : IsW B (w.alloc o) g l n := by
 obtain ⟨h1, v, hb, ho⟩ := h
 exact ⟨h1, v, blk_grown hb (World.grownBy_alloc w o none) (by simp), ho.alloc o⟩
theorem IsW.lt {B g : Nat} {w : World} {l : List Int} {n : Int} (h : IsW B w g l n) : g < w.heap.size := by
 obtain ⟨h1, v, hb, ho⟩ := h
 exact blk_lt hb
theorem IsW.far {B g : Nat} {w : World} {l : List Int} {n : Int} (h : IsW B w g l n) {g' t : Nat} {cs : Array Value} (hb : w.heap[g']? = some (.cells cs t (0, 0))) (hg : g' ≠ g) (ht : t ≠ 5) (j : Nat) (u : Value) : IsW B (w.setCell ⟨g', j, none⟩ u) g l n := by
 obtain ⟨h1, v, hbg, ho⟩ := h
 exact ⟨h1, v, blk_far hbg (Ne.symm hg) u, own_setCell ho (own_ne ho hb (Ne.symm ht)) u⟩
theorem IsW.put {B g : Nat} {W w1 : World} {v v1 : Value} {n : Int} {m : Nat} {xs : List Value} {l' : List Int} (hg : B ≤ g) (hb : W.heap[g]? = some (.cells #[v, .int .i64 n] 57 (0, 0))) (ho : W.ownsRow B 5 1 v m xs) {m1 : Nat} (ho1 : w1.ownsRow B 5 1 v1 m1 (nums .u8 l')) (hm : m1 = l'.length) (hgr : W.grownBy w1 v.ownBlock) :
  IsW B (w1.setCell ⟨g, 0, none⟩ v1) g l' n := by
 subst hm
 have hb1 := blk_grown hb hgr (own_ne ho hb (by decide))
 have hs := blk_set hb1 0 v1
 exact ⟨hg, v1, by simpa using hs, own_setCell ho1 (own_ne ho1 hb1 (by decide)) v1⟩
theorem IsW.setN {B g : Nat} {W : World} {n : Int} {l : List Int} (h : IsW B W g l n) (m : Int) : IsW B (W.setCell ⟨g, 1, none⟩ (.int .i64 m)) g l m := by
 obtain ⟨hg, v, hb, ho⟩ := h
 exact ⟨hg, v, by simpa using blk_set hb 1 (.int .i64 m), own_setCell ho (own_ne ho hb (by decide)) _⟩
theorem WK.of_drew {B g D T : Nat} {w W2 w3 : World} {cs : Array Value} (h : WK B g w W2) (hg : W2.drew.grownBy w3 (some D)) (hD : W2.heap[D]? = some (.cells cs T (0, 0))) (hB : B ≤ D) (hT : w.heap.size ≤ D) : WK B g w w3 := by
 refine ⟨h.1.trans ⟨hg.os, hg.tape, hg.output, hg.size, fun k hk => hg.block k (by have := blk_lt hD; exact Nat.lt_trans (Nat.lt_of_lt_of_le hk hB) this) (fun e => by injection e with e; omega)⟩, fun k o hk hb ho => ?_⟩
 have h1 := h.2 k o hk hb ho
 have hlt : k < w.heap.size := (Array.getElem?_eq_some_iff.1 hk).1
 rw [hg.block k (by have := (Array.getElem?_eq_some_iff.1 h1).1; exact this) (fun e => by injection e with e; omega)]
 exact h1
section
variable {P : Program} {ops : Array Oper} {rest : List Oper} {o : Oper} {a : Act} {Q : Exit → Act → World → Prop}
theorem put_num {B g T : Nat} {W : World} {v : Value} {n : Int} (l : List Int) (y : Int) (D : Nat) (hD : D = W.heap.size) (hgd : o.guard = none) (s x : Operand) (t e : TypeId)
  (ho : o.op = .call { callee := .builtin .append, args := #[s, x], argTypes := #[t, t] })
  (ht : P.underlying t = some (.slice e)) (hinfo : (P.info? e).map (fun i => (i.zero, i.size, i.bytes)) = some (some (.int .u8 0), 1, 1))
  (hs : a.eval s = v) (hx : a.eval x = .slice (some ⟨D, 0, none⟩) 1 1)
  (HB : W.heap[g]? = some (.cells #[v, .int .i64 n] T (0, 0))) (hT : e ≠ T) (HO : W.ownsRow B e 1 v l.length (nums .u8 l)) (hbase : B ≤ W.heap.size) (hl : l.length + 1 ≤ 140737488355328)
  (h : ∀ A1 k1 w1, Hid (w1.ownsRow B e 1 (.slice A1 (l.length + 1) k1) (l.length + 1) (nums .u8 (l ++ [y]))) → Hid (W.grownBy w1 v.ownBlock) → w1.cell? ⟨g, 0, none⟩ = some v → w1.cell? ⟨g, 1, none⟩ = some (.int .i64 n) → w1.frozen? ⟨g, 0, none⟩ = false → w1.frozen? ⟨g, 1, none⟩ = false → wpList P ops Q rest (a.put o.dst (.slice A1 (l.length + 1) k1)) w1) :
  wpList P ops Q (o :: rest) a (W.alloc (.cells #[.int .u8 y] e)) := by
 subst hD
 refine print_append_num B hgd s x t e .u8 1 ho ht hinfo (by decide) v l y hs hx HO (Below.refl _ _) hbase (by omega) ?_
 intro v1 w1 ho1 hb1 hg1 hat
 obtain ⟨A1, k1, rfl⟩ := own_slice ho1
 have hbk := blk_grown HB hg1 (own_ne HO HB hT)
 rw [show (l ++ [y]).length = l.length + 1 from List.length_append] at ho1 ⊢
 exact h A1 k1 w1 (Lib.hid ho1) (Lib.hid hg1) ((blk_cell hbk 0).trans rfl) ((blk_cell hbk 1).trans rfl) (blk_frozen hbk 0) (blk_frozen hbk 1)
end
set_option maxHeartbeats 400000 in
theorem Writer_Open (B g : Nat) (l : List Int) (n : Int) (w : World) (hI : IsW B w g l n) (hBw : B ≤ w.heap.size) (hn0 : 0 ≤ n) (hn1 : n ≤ 1000) (hl : l.length + 1 ≤ 140737488355328) :
  Calls Tryd.prog 29 #[.pointer (some ⟨g, 0, none⟩)] w fun e w' => e = .returned (.tuple #[]) ∧ IsW B w' g (l ++ [108]) (n + 1) ∧ WK B g w w' := by
 obtain ⟨hBg, v, hb, ho⟩ := hI
 have c0 : w.cell? ⟨g, 0, none⟩ = some v := (blk_cell hb 0).trans rfl
 have HB := Lib.hid hb
 have HO := Lib.hid ho
 clear hb ho
 go_enter Tryd.func29, Tryd.ntmps29
 go_wp2_with (at_builtin; refine print_append_num B rfl _ _ 22 5 .u8 1 rfl Tryd.underlying22 info5 (by decide) v l 108 rfl rfl HO.out (Below.refl _ _) hBw (by omega) ?_; intro v1 w1 ho1 hb1 hg1 hat; obtain ⟨A1, k1, rfl⟩ := own_slice ho1; rw [show (l ++ [(108 : Int)]).length = l.length + 1 from List.length_append] at ho1; have hbk := blk_grown HB.out hg1 (own_ne HO.out HB.out (by decide)); have d0 : w1.cell? ⟨g, 0, none⟩ = some v := (blk_cell hbk 0).trans rfl; have d1 : w1.cell? ⟨g, 1, none⟩ = some (.int .i64 n) := (blk_cell hbk 1).trans rfl; have f0 : w1.frozen? ⟨g, 0, none⟩ = false := blk_frozen hbk 0; have f1 : w1.frozen? ⟨g, 1, none⟩ = false := blk_frozen hbk 1; have HO1 := Lib.hid ho1; have HG1 := Lib.hid hg1; clear hat hb1 hg1 ho1 hbk)
 first | go_end0 | ((try simp only [Exit.inBlock, Exit.then]); refine bodyPost_ret (results_none rfl _ _ _) rfl ?_)
 exact ⟨rfl, (IsW.put hBg HB.out HO.out HO1.out (by rw [List.length_append]; rfl) HG1.out).setN _, (((WK.refl B g w).grown hBw HO.out HG1.out).setW hBg _ _).setW hBg _ _⟩
set_option maxHeartbeats 400000 in
theorem Writer_Close (B g : Nat) (l : List Int) (n : Int) (w : World) (hI : IsW B w g l n) (hBw : B ≤ w.heap.size) (hn0 : 1 ≤ n) (hn1 : n ≤ 1000) (hl : l.length + 1 ≤ 140737488355328) :
  Calls Tryd.prog 32 #[.pointer (some ⟨g, 0, none⟩)] w fun e w' => e = .returned (.tuple #[]) ∧ IsW B w' g (l ++ [101]) (n - 1) ∧ WK B g w w' := by
 obtain ⟨hBg, v, hb, ho⟩ := hI
 have c0 : w.cell? ⟨g, 0, none⟩ = some v := (blk_cell hb 0).trans rfl
 have c1 : w.cell? ⟨g, 1, none⟩ = some (.int .i64 n) := (blk_cell hb 1).trans rfl
 have HB := Lib.hid hb
 have HO := Lib.hid ho
 clear hb ho
 go_enter Tryd.func32, Tryd.ntmps32
 go_wp2_with (at_builtin; refine print_append_num B rfl _ _ 22 5 .u8 1 rfl Tryd.underlying22 info5 (by decide) v l 101 rfl rfl HO.out (Below.refl _ _) hBw (by omega) ?_; intro v1 w1 ho1 hb1 hg1 hat; obtain ⟨A1, k1, rfl⟩ := own_slice ho1; rw [show (l ++ [(101 : Int)]).length = l.length + 1 from List.length_append] at ho1; have hbk := blk_grown HB.out hg1 (own_ne HO.out HB.out (by decide)); have d0 : w1.cell? ⟨g, 0, none⟩ = some v := (blk_cell hbk 0).trans rfl; have d1 : w1.cell? ⟨g, 1, none⟩ = some (.int .i64 n) := (blk_cell hbk 1).trans rfl; have f0 : w1.frozen? ⟨g, 0, none⟩ = false := blk_frozen hbk 0; have f1 : w1.frozen? ⟨g, 1, none⟩ = false := blk_frozen hbk 1; have HO1 := Lib.hid ho1; have HG1 := Lib.hid hg1; clear hat hb1 hg1 ho1 hbk)
 first | go_end0 | ((try simp only [Exit.inBlock, Exit.then]); refine bodyPost_ret (results_none rfl _ _ _) rfl ?_)
 exact ⟨rfl, (IsW.put hBg HB.out HO.out HO1.out (by rw [List.length_append]; rfl) HG1.out).setN _, (((WK.refl B g w).grown hBw HO.out HG1.out).setW hBg _ _).setW hBg _ _⟩
def bl (l : List UInt8) : List Int := l.map fun b => (b.toNat : Int)
theorem bl_length (l : List UInt8) : (bl l).length = l.length := by simp [bl]
theorem nums_bl (l : List UInt8) : nums .u8 (bl l) = Lib.byteCells l := by simp [nums, bl, Lib.byteCells]
theorem itoa_len (n : Int) (h0 : 0 ≤ n) (h1 : n ≤ 9223372036854775807) : (Lib.itoa n).length ≤ 20 := by
 obtain ⟨u, rfl⟩ : ∃ u : Nat, n = u := ⟨n.toNat, by omega⟩
 rw [Lib.itoa_nonneg]
 exact decDigits_len20 u (by omega)
theorem IsW.open_ {B g : Nat} {w : World} {l : List Int} {n : Int} (h : IsW B w g l n) : ∃ A c, w.cell? ⟨g, 0, none⟩ = some (.slice A l.length c) ∧ w.cell? ⟨g, 1, none⟩ = some (.int .i64 n) ∧ w.frozen? ⟨g, 0, none⟩ = false ∧ w.frozen? ⟨g, 1, none⟩ = false ∧ w.heap[g]? = some (.cells #[.slice A l.length c, .int .i64 n] 57 (0, 0)) ∧ w.ownsRow B 5 1 (.slice A l.length c) l.length (nums .u8 l) := by
 obtain ⟨hBg, v, hb, ho⟩ := h
 obtain ⟨A, c, rfl⟩ := own_slice ho
 exact ⟨A, c, (blk_cell hb 0).trans rfl, (blk_cell hb 1).trans rfl, blk_frozen hb 0, blk_frozen hb 1, hb, ho⟩
section
variable {P : Program} {ops : Array Oper} {o : Oper} {a : Act} {K : Act → World → Prop} {Q : Exit → Act → World → Prop} {E : Prop} {w : World}
theorem step_app (base : Nat) (s x : Operand) (t e : TypeId) (bytes : Nat) (hgd : o.guard = none) (N : Option Tmp) (hN : o.dst = N)
  (ho : o.op = .call { callee := .builtin .append, args := #[s, x], argTypes := #[t, t] }) (ht : P.underlying t = some (.slice e))
  {z : Value} (hinfo : (P.info? e).map (fun i => (i.zero, i.size, i.bytes)) = some (some z, 1, bytes)) (hz : z.cells.size = 1)
  (v : Value) (n : Nat) (xs : List Value) (hs : a.eval s = v) (hown : w.ownsRow base e 1 v n xs) (ad : Addr) (m c : Nat) (news : List Value) (hx : a.eval x = .slice (some ad) m c)
  (hl : news.length = m * 1) (hnews : ∀ j u, news[j]? = some u → w.cell? (ad.add j) = some u) (h1 : ∀ u ∈ news, u.oneCell' = true) (h63 : n + m ≤ maxLen) (hbytes : (n + m) * bytes ≤ 140737488355328) (hbase : base ≤ w.heap.size)
  (h : ∀ A1 k1 w', w'.ownsRow base e 1 (.slice A1 (n + m) k1) (n + m) (xs ++ news) → w.grownBy w' v.ownBlock → K (a.put N (.slice A1 (n + m) k1)) w') :
  if Region.wanted o (yielded ops a.tmps) = true then Oper.wp P o a w K Q else E := by
 obtain ⟨i0, hi, hz0, hz1, hz2⟩ := info_parts hinfo
 have hw : Region.wanted o (yielded ops a.tmps) = true := by simp [Region.wanted, hgd]
 rw [if_pos hw]
 subst hN
 refine wp_append_own w s x t ho base e i0 z 1 bytes ht hi hz0 hz1 hz2 hz (by decide) v n xs hs hown ad m c news hx hl hnews h1 h63 hbytes hbase ?_
 intro v' w' h2 h3 _
 obtain ⟨A1, k1, rfl⟩ := own_slice h2
 exact h A1 k1 w' h2 h3
end
theorem itoa_pos (n : Int) (h0 : 0 ≤ n) : 0 < (Lib.itoa n).length := by
 obtain ⟨u, rfl⟩ : ∃ u : Nat, n = u := ⟨n.toNat, by omega⟩
 rw [Lib.itoa_nonneg, Lib.decDigits_length]
 by_cases h : u < 10
 ·rw [Lib.nDigits_small h]; omega
 ·rw [Lib.nDigits_big (by omega)]; omega
set_option maxHeartbeats 4000000 in
set_option maxRecDepth 100000 in
theorem Writer_Int (B g : Nat) (l : List Int) (n : Int) (i : Int) (w : World) (hI : IsW B w g l n) (hBw : B ≤ w.heap.size) (hi0 : 0 ≤ i) (hi1 : i ≤ 9223372036854775807) (hl : l.length + 50 ≤ 140737488355328)
  (htab : 100 ≤ i → Lib.TabBelow Tryd.prog B w "internal/strconv.uint64pow10" .u64 Lib.pow10Tab) :
  Calls Tryd.prog 30 #[.pointer (some ⟨g, 0, none⟩), .int .i64 i] w fun e w' => e = .returned (.tuple #[]) ∧ IsW B w' g (l ++ (105 :: bl (Lib.itoa i) ++ [59])) n ∧ WK B g w w' := by
 have hgl := hI.lt
 have hBg := hI.1
 obtain ⟨A0, cp0, c0, c1, f0, f1, hb, ho⟩ := hI.open_
 have HB := Lib.hid hb
 have HO := Lib.hid ho
 have HT := Lib.hid htab
 have hil := itoa_len i hi0 hi1
 have hip := itoa_pos i hi0
 obtain ⟨i0, hi, hz0, hz1, hz2⟩ := info_parts info5
 clear hb ho htab
 go_enter Tryd.func30, Tryd.ntmps30
 go_wp2_with (at_builtin; refine put_num l 105 (w.heap.size + 1) (by simp) rfl _ _ 22 5 rfl Tryd.underlying22 info5 rfl rfl (blk_grown HB.out (World.grownBy_alloc w _ none) (by simp)) (by decide) (HO.out.alloc _) (by simp; omega) (by omega) ?_; intro A1 k1 w1 HO1 HG1 d0 d1 g0 g1)
 have HW2 : Hid (IsW B (w1.setCell ⟨g, 0, none⟩ (.slice A1 (l.length + 1) k1)) g (l ++ [105]) n) := Lib.hid (IsW.put hBg (blk_grown HB.out (World.grownBy_alloc w _ none) (by simp)) (HO.out.alloc _) HO1.out (by rw [List.length_append]; rfl) HG1.out)
 have HK2 : Hid (WK B g w (w1.setCell ⟨g, 0, none⟩ (.slice A1 (l.length + 1) k1))) := Lib.hid ((((WK.refl B g w).alloc hBw _).grown (by simp; omega) (HO.out.alloc _) HG1.out).setW hBg _ _)
 have HD2 : Hid ((w1.setCell ⟨g, 0, none⟩ (.slice A1 (l.length + 1) k1)).heap[w.heap.size]? = some (.cells Lib.zeros24 83 (0, 0))) := Lib.hid (blk_far (blk_grown (heap_alloc_new w (.cells Lib.zeros24 83)) HG1.out (own_ne (HO.out.alloc _) (heap_alloc_new w (.cells Lib.zeros24 83)) (by decide))) (by show w.heap.size ≠ g; omega) _)
 generalize w1.setCell ⟨g, 0, none⟩ (.slice A1 (l.length + 1) k1) = W2 at HW2 HK2 HD2 ⊢
 have hl2 : (l ++ [(105 : Int)]).length ≤ l.length + 1 := by simp
 clear HO1 HG1 d0 d1 g0 g1 c0 c1 f0 f1 HB HO
 obtain ⟨D, hD⟩ : ∃ D, D = w.heap.size := ⟨_, rfl⟩
 rw [← hD] at HD2 hgl ⊢
 have hgD : g ≠ D := by omega
 obtain ⟨l2, hl2e⟩ : ∃ l2, l ++ [(105 : Int)] = l2 := ⟨_, rfl⟩
 rw [hl2e] at HW2 hl2
 have HL2 := Lib.hid hl2e
 clear hl2e
 have HDW := Lib.hid hD
 clear hD
 obtain ⟨A2, cp2, e0, e1, q0, q1, hb2, ho2⟩ := (HW2.out).open_
 have HB2 := Lib.hid hb2
 have HO2 := Lib.hid ho2
 clear hb2 ho2
 have hgD' : some g ≠ some D := by simpa using hgD
 have HC := Lib.hid (AppendInt_arr D i hi0 hi1 W2.drew Lib.zeros24 HD2.out rfl (fun h => (HT.out h) _ HK2.out.1.drew))
 have HKP : Hid (∀ w3, AtHead D (Lib.itoa i) W2.drew w3 → w3.heap[g]? = some (.cells #[.slice A2 l2.length cp2, .int .i64 n] 57 (0, 0))) := Lib.hid (fun w3 HA => (HA.2.block g (blk_lt HB2.out) hgD').trans HB2.out)
 have HKO : Hid (∀ w3, AtHead D (Lib.itoa i) W2.drew w3 → w3.ownsRow B 5 1 (.slice A2 l2.length cp2) l2.length (nums .u8 l2) ∧ (∀ j u, (Lib.byteCells (Lib.itoa i))[j]? = some u → w3.cell? ((⟨D, 0, none⟩ : Addr).add j) = some u) ∧ B ≤ w3.heap.size) := Lib.hid (fun w3 HA => ⟨(HO2.out).kept (w' := w3) (row := some D) ⟨HA.2.os, HA.2.tape, HA.2.output, HA.2.size, HA.2.block⟩ (.inr (Ne.symm (own_ne HO2.out HD2.out (by decide)))), fun j u hj => by rw [Lib.add_plain, Nat.zero_add]; exact HA.1 j u hj, by have h1 := HA.2.size; have h2 := HK2.out.1.size; have h3 : W2.drew.heap.size = W2.heap.size := rfl; omega⟩)
 have hbc : (Lib.byteCells (Lib.itoa i)).length = (Lib.itoa i).length * 1 := by rw [Lib.byteCells_length, Nat.mul_one]
 have HBC := Lib.hid hbc
 have HB1 : Hid (∀ u ∈ Lib.byteCells (Lib.itoa i), u.oneCell' = true) := Lib.hid (by intro u' hu'; simp only [Lib.byteCells, List.mem_map] at hu'; obtain ⟨b, _, rfl⟩ := hu'; rfl)
 clear hbc
 have hm1 : l2.length + (Lib.itoa i).length ≤ maxLen := by unfold maxLen; omega
 have HM1 := Lib.hid hm1
 clear hm1
 have HM2 : Hid ((l2.length + (Lib.itoa i).length) * 1 ≤ 140737488355328) := Lib.hid (by omega)
 refine start_ (n := 12) (S := fun w' => w'.cell? ⟨g, 0, none⟩ = some (.slice A2 l2.length cp2)) (ds := [11]) #[false, false, false, false, false, false, false, false, false, false, false, false] (by kernel_rfl) rfl rfl (e0) (fun hHeld => ?_)
 refine pure_ (i := 0) (N := some 14) (v := ?_) (a' := ?_) #[true, false, false, false, false, false, false, false, false, false, false, false] rfl rfl (by kernel_rfl) (fun _ _ _ h => h) (Or.inl ⟨by rfl, ?_⟩) ?_ ?_
 rotate_left
 ·intro w'
  go_simp
  with_reducible rfl
 rotate_left
 ·simp only [Act.put, sA_, sB_, sC_, i64_w, i32_w]
  rfl
 refine pure_ (i := 1) (N := some 15) (v := ?_) (a' := ?_) #[true, true, false, false, false, false, false, false, false, false, false, false] rfl rfl (by kernel_rfl) (fun _ _ _ h => h) (Or.inl ⟨by rfl, ?_⟩) ?_ ?_
 rotate_left
 ·intro w'
  go_simp
  with_reducible rfl
 rotate_left
 ·simp only [Act.put, sA_, sB_, sC_, i64_w, i32_w]
  rfl
 refine pure_ (i := 2) (N := some 16) (v := ?_) (a' := ?_) #[true, true, true, false, false, false, false, false, false, false, false, false] rfl rfl (by kernel_rfl) (fun _ _ _ h => h) (Or.inl ⟨by rfl, ?_⟩) ?_ ?_
 rotate_left
 ·intro w'
  go_simp
  with_reducible rfl
 rotate_left
 ·simp only [Act.put, sA_, sB_, sC_, i64_w, i32_w]
  rfl
 refine pure_ (i := 3) (N := some 17) (v := ?_) (a' := ?_) #[true, true, true, true, false, false, false, false, false, false, false, false] rfl rfl (by kernel_rfl) (fun _ _ _ h => h) (Or.inl ⟨by rfl, ?_⟩) ?_ ?_
 rotate_left
 ·intro w'
  go_simp
  with_reducible rfl
 rotate_left
 ·simp only [Act.put, sA_, sB_, sC_, i64_w, i32_w]
  rfl
 refine pure_ (i := 5) (N := some 19) (v := ?_) (a' := ?_) #[true, true, true, true, false, true, false, false, false, false, false, false] rfl rfl (by kernel_rfl) (fun _ _ _ h => h) (Or.inl ⟨by rfl, ?_⟩) ?_ ?_
 rotate_left
 ·intro w'
  go_simp
  with_reducible rfl
 rotate_left
 ·simp only [Act.put, sA_, sB_, sC_, i64_w, i32_w]
  rfl
 refine pure_ (i := 6) (N := some 20) (v := ?_) (a' := ?_) #[true, true, true, true, false, true, true, false, false, false, false, false] rfl rfl (by kernel_rfl) (fun _ _ _ h => h) (Or.inl ⟨by rfl, ?_⟩) ?_ ?_
 rotate_left
 ·intro w'
  go_simp
  with_reducible rfl
 rotate_left
 ·simp only [Act.put, sA_, sB_, sC_, i64_w, i32_w]
  rfl
 refine take_ (i := 4) (N := some 18) (v := ?_) (a' := ?_) #[true, true, true, true, true, true, true, false, false, false, false, false] rfl rfl (by kernel_rfl) (fun _ _ _ h => h) (Or.inl ⟨by rfl, ?_⟩) hHeld ?_ ?_
 rotate_left
 ·intro w' s0
  go_simp
  with_reducible rfl
 rotate_left
 ·simp only [Act.put, sA_, sB_, sC_, i64_w, i32_w]
  rfl
 refine one_ (i := 7) (N := some 21) #[true, true, true, true, true, true, true, true, false, false, false, false] rfl rfl (by kernel_rfl) (by decide) (fun K hK => ?_)
 refine goes_ Tryd.func53 (by kernel_rfl) rfl #[.slice (some ⟨D, 0, none⟩) 0 24, .int .i64 i, .int .i64 10] (by rfl) rfl rfl (by simp only [List.map_toArray, List.map_cons, List.map_nil]; rfl) ?_
 with_reducible refine (HC.out).mono ?_
 rintro e w3 ⟨rfl, hA⟩
 refine ⟨_, rfl, ?_⟩
 have HA := Lib.hid hA
 clear hA
 refine hK.out _ _ ((blk_cell (HKP.out _ HA.out) 0).trans rfl) (fun hHeld => ?_)
 clear hK K
 refine norm_ (a' := ?_) ?_ ?_
 rotate_left
 ·show Act.put _ (some 21) _ = _
  simp only [Act.put, sA_, sB_, sC_, i64_w, i32_w]
  rfl
 refine one_ (i := 8) (N := some 22) #[true, true, true, true, true, true, true, true, true, false, false, false] rfl rfl (by kernel_rfl) (by decide) (fun K hK => ?_)
 refine step_app B (.tmp 18) (.tmp 21) 22 5 1 (by rfl) _ rfl (by rfl) Tryd.underlying22 info5 (by decide) (.slice A2 l2.length cp2) l2.length (nums .u8 l2) (by rfl) (HKO.out _ HA.out).1 ⟨D, 0, none⟩ (Lib.itoa i).length 24 (Lib.byteCells (Lib.itoa i)) (by rfl) HBC.out (HKO.out _ HA.out).2.1 HB1.out HM1.out HM2.out (HKO.out _ HA.out).2.2 ?_
 intro A4 k4 w4 ho4 hg4
 have hb4 := blk_grown (HKP.out _ HA.out) hg4 (own_ne (HKO.out _ HA.out).1 (HKP.out _ HA.out) (by decide))
 have e4 : w4.cell? ⟨g, 0, none⟩ = some (.slice A2 l2.length cp2) := (blk_cell hb4 0).trans rfl
 have q4 : w4.frozen? ⟨g, 0, none⟩ = false := blk_frozen hb4 0
 have HO4 := Lib.hid ho4
 have HG4 := Lib.hid hg4
 have HB4 := Lib.hid hb4
 clear ho4 hg4 hb4
 refine hK.out _ _ (e4) (fun hHeld => ?_)
 clear hK K
 refine norm_ (a' := ?_) ?_ ?_
 rotate_left
 ·show Act.put _ (some 22) _ = _
  simp only [Act.put, sA_, sB_, sC_, i64_w, i32_w]
  rfl
 refine pure_ (i := 9) (N := some 23) (v := ?_) (a' := ?_) #[true, true, true, true, true, true, true, true, true, true, false, false] rfl rfl (by kernel_rfl) (fun _ _ _ h => h) (Or.inl ⟨by rfl, ?_⟩) ?_ ?_
 rotate_left
 ·intro w'
  go_simp
  with_reducible rfl
 rotate_left
 ·simp only [Act.put, sA_, sB_, sC_, i64_w, i32_w]
  rfl
 refine pure_ (i := 10) (N := some 24) (v := ?_) (a' := ?_) #[true, true, true, true, true, true, true, true, true, true, true, false] rfl rfl (by kernel_rfl) (fun _ _ _ h => h) (Or.inl ⟨by rfl, ?_⟩) ?_ ?_
 rotate_left
 ·intro w'
  go_simp
  with_reducible rfl
 rotate_left
 ·simp only [Act.put, sA_, sB_, sC_, i64_w, i32_w]
  rfl
 refine last_ (i := 11) (N := none) #[true, true, true, true, true, true, true, true, true, true, true, true] rfl rfl (by kernel_rfl) (by decide) (fun K hK => ?_)
 refine skip_ (w1 := ?_) (by rfl) rfl ?_ ?_
 rotate_left
 ·go_simp
  rfl
 refine hK.out _ _ ?_
 clear hK K
 refine done_ (by kernel_rfl) ?_
 have HW5 : Hid (IsW B (w4.setCell ⟨g, 0, none⟩ (.slice A4 (l2.length + (Lib.itoa i).length) k4)) g (l2 ++ bl (Lib.itoa i)) n) := Lib.hid (IsW.put (m1 := l2.length + (Lib.itoa i).length) hBg (HKP.out _ HA.out) (HKO.out _ HA.out).1 (by have h := HO4.out; rw [← nums_bl, ← nums_append] at h; exact h) (by rw [List.length_append, bl_length]) HG4.out)
 have HK3 : Hid (WK B g w w3) := Lib.hid (WK.of_drew (HK2.out) (HA.out.2) HD2.out (by rw [HDW.out]; exact hBw) (by rw [HDW.out]; exact Nat.le_refl _))
 have HK5 : Hid (WK B g w (w4.setCell ⟨g, 0, none⟩ (.slice A4 (l2.length + (Lib.itoa i).length) k4))) := Lib.hid ((HK3.out.grown (HKO.out _ HA.out).2.2 (HKO.out _ HA.out).1 HG4.out).setW hBg _ _)
 generalize w4.setCell ⟨g, 0, none⟩ (.slice A4 (l2.length + (Lib.itoa i).length) k4) = W5 at HW5 HK5 ⊢
 have hl3 : (l2 ++ bl (Lib.itoa i)).length ≤ l.length + 25 := by rw [List.length_append, bl_length]; omega
 obtain ⟨l3, hl3e⟩ : ∃ l3, l2 ++ bl (Lib.itoa i) = l3 := ⟨_, rfl⟩
 rw [hl3e] at HW5 hl3
 have HL3 := Lib.hid hl3e
 clear hl3e hHeld e0 e1 q0 q1 e4 q4
 obtain ⟨A6, k6, c6, d6, f6, g6, hb6, ho6⟩ := (HW5.out).open_
 have HB6 := Lib.hid hb6
 have HO6 := Lib.hid ho6
 clear hb6 ho6
 have hB5 : B ≤ W5.heap.size := by have := HK5.out.1.size; omega
 go_wp2_with (at_builtin; refine put_num l3 59 W5.heap.size rfl rfl _ _ 22 5 rfl Tryd.underlying22 info5 rfl rfl HB6.out (by decide) HO6.out hB5 (by omega) ?_; intro A7 k7 w7 HO7 HG7 d7 e7 g7 h7)
 first | go_end0 | ((try simp only [Exit.inBlock, Exit.then]); refine bodyPost_ret (results_none rfl _ _ _) rfl ?_)
 refine ⟨rfl, ?_, (HK5.out.grown hB5 HO6.out HG7.out).setW hBg _ _⟩
 have hfin := IsW.put hBg HB6.out HO6.out HO7.out (by rw [List.length_append]; rfl) HG7.out
 rw [← HL3.out, ← HL2.out] at hfin ⊢
 simpa using hfin
end Go.Proofs.YtfpopmojlmpopaaDoor.H

end
section
namespace Go.Proofs.YtfpopmojlmpopaaDoor.H
open Go.RowKit Go.Proofs.YtfpopmojlmpopaaDoorW.PrintWords Go.Proofs.YtfpopmojlmpopaaDoorW.PrintLast Go.Proofs.YtfpopmojlmpopaaDoorW.PrintMore
set_option linter.unusedVariables false
set_option linter.unusedSimpArgs false
theorem put_blk {B g : Nat} {W w1 : World} {v v1 : Value} {n : Int} {m : Nat} {xs : List Value} (hb : W.heap[g]? = some (.cells #[v, .int .i64 n] 57 (0, 0))) (ho : W.ownsRow B 5 1 v m xs) {m1 : Nat} {ys : List Value} (ho1 : w1.ownsRow B 5 1 v1 m1 ys) (hgr : W.grownBy w1 v.ownBlock) :
  (w1.setCell ⟨g, 0, none⟩ v1).heap[g]? = some (.cells #[v1, .int .i64 n] 57 (0, 0)) ∧ (w1.setCell ⟨g, 0, none⟩ v1).ownsRow B 5 1 v1 m1 ys := by
 have hb1 := blk_grown hb hgr (own_ne ho hb (by decide))
 exact ⟨by simpa using blk_set hb1 0 v1, own_setCell ho1 (own_ne ho1 hb1 (by decide)) v1⟩
theorem nums_bytesOf (s : ByteArray) : nums .u8 (bytesOf s) = Lib.strCells s := by simp [nums, bytesOf, Lib.strCells]
section
variable {P : Program} {ops : Array Oper} {rest : List Oper} {o : Oper} {a : Act} {Q : Exit → Act → World → Prop}
theorem put_str {B g T : Nat} {W : World} {v : Value} {n : Int} (l : List Int) (m : Nat) (str : ByteArray) (hgd : o.guard = none) (s x : Operand) (t u e : TypeId)
  (ho : o.op = .call { callee := .builtin .append, args := #[s, x], argTypes := #[t, u] })
  (ht : P.underlying t = some (.slice e)) (hu : P.underlying u = some .string) (hinfo : (P.info? e).map (fun i => (i.zero, i.size, i.bytes)) = some (some (.int .u8 0), 1, 1))
  (hs : a.eval s = v) (hx : a.eval x = .string str)
  (HB : W.heap[g]? = some (.cells #[v, .int .i64 n] T (0, 0))) (hT : e ≠ T) (HO : W.ownsRow B e 1 v m (nums .u8 l)) (hbase : B ≤ W.heap.size) (hl : m + str.size ≤ 140737488355328)
  (h : ∀ A1 k1 w1, Hid (w1.ownsRow B e 1 (.slice A1 (m + str.size) k1) (m + str.size) (nums .u8 (l ++ bytesOf str))) → Hid (W.grownBy w1 v.ownBlock) → w1.cell? ⟨g, 0, none⟩ = some v → w1.cell? ⟨g, 1, none⟩ = some (.int .i64 n) → w1.frozen? ⟨g, 0, none⟩ = false → w1.frozen? ⟨g, 1, none⟩ = false → wpList P ops Q rest (a.put o.dst (.slice A1 (m + str.size) k1)) w1) :
  wpList P ops Q (o :: rest) a W := by
 obtain ⟨i0, hi, hz0, hz1, hz2⟩ := info_parts hinfo
 refine Lib.wpList_append_own_string W hgd s x t u ho B e i0 ht hu hi hz0 hz1 hz2 v m (nums .u8 l) hs HO str hx (by unfold maxLen; omega) hl hbase ?_
 intro v1 w1 ho1 hg1 _
 obtain ⟨A1, k1, rfl⟩ := own_slice ho1
 have hbk := blk_grown HB hg1 (own_ne HO HB hT)
 rw [← nums_bytesOf, ← nums_append] at ho1
 exact h A1 k1 w1 (Lib.hid ho1) (Lib.hid hg1) ((blk_cell hbk 0).trans rfl) ((blk_cell hbk 1).trans rfl) (blk_frozen hbk 0) (blk_frozen hbk 1)
end
set_option maxHeartbeats 4000000 in
set_option maxRecDepth 100000 in
theorem Writer_Text (B g : Nat) (l : List Int) (n : Int) (s : ByteArray) (w : World) (hI : IsW B w g l n) (hBw : B ≤ w.heap.size) (hl : l.length + s.size + 100 ≤ 140737488355328)
  (htab : (100 : Int) ≤ s.size → Lib.TabBelow Tryd.prog B w "internal/strconv.uint64pow10" .u64 Lib.pow10Tab) :
  Calls Tryd.prog 54 #[.pointer (some ⟨g, 0, none⟩), .string s] w fun e w' => e = .returned (.tuple #[]) ∧ IsW B w' g (l ++ (bl (Lib.itoa s.size) ++ 58 :: bytesOf s)) n ∧ WK B g w w' := by
 have hgl := hI.lt
 have hBg := hI.1
 have hi0 : (0 : Int) ≤ (s.size : Int) := by omega
 have hi1 : (s.size : Int) ≤ 9223372036854775807 := by omega
 have HT := Lib.hid htab
 have hil := itoa_len (s.size : Int) hi0 hi1
 have hip := itoa_pos (s.size : Int) hi0
 obtain ⟨i0, hi, hz0, hz1, hz2⟩ := info_parts info5
 have HW2 : Hid (IsW B (w.alloc (.cells Lib.zeros24 83)) g l n) := Lib.hid (hI.alloc _)
 have HK2 : Hid (WK B g w (w.alloc (.cells Lib.zeros24 83))) := Lib.hid ((WK.refl B g w).alloc hBw _)
 have HD2 : Hid ((w.alloc (.cells Lib.zeros24 83)).heap[w.heap.size]? = some (.cells Lib.zeros24 83 (0, 0))) := Lib.hid (heap_alloc_new _ _)
 clear htab
 go_enter Tryd.func54, Tryd.ntmps54
 go_wp2_with fail
 change Code.wp _ _ _ _ (w.alloc (.cells Lib.zeros24 83))
 generalize w.alloc (.cells Lib.zeros24 83) = W2 at HW2 HK2 HD2 ⊢
 obtain ⟨D, hD⟩ : ∃ D, D = w.heap.size := ⟨_, rfl⟩
 rw [← hD] at HD2 hgl ⊢
 have hgD : g ≠ D := by omega
 obtain ⟨l2, hl2e⟩ : ∃ l2, l = l2 := ⟨_, rfl⟩
 have hl2 : l2.length ≤ l.length := by rw [hl2e]; exact Nat.le_refl _
 rw [hl2e] at HW2
 have HL2 := Lib.hid hl2e
 clear hl2e
 have HDW := Lib.hid hD
 clear hD
 obtain ⟨A2, cp2, e0, e1, q0, q1, hb2, ho2⟩ := (HW2.out).open_
 have HB2 := Lib.hid hb2
 have HO2 := Lib.hid ho2
 clear hb2 ho2
 have hgD' : some g ≠ some D := by simpa using hgD
 have HC := Lib.hid (AppendInt_arr D (s.size : Int) hi0 hi1 W2.drew Lib.zeros24 HD2.out rfl (fun h => (HT.out h) _ HK2.out.1.drew))
 have HKP : Hid (∀ w3, AtHead D (Lib.itoa (s.size : Int)) W2.drew w3 → w3.heap[g]? = some (.cells #[.slice A2 l2.length cp2, .int .i64 n] 57 (0, 0))) := Lib.hid (fun w3 HA => (HA.2.block g (blk_lt HB2.out) hgD').trans HB2.out)
 have HKO : Hid (∀ w3, AtHead D (Lib.itoa (s.size : Int)) W2.drew w3 → w3.ownsRow B 5 1 (.slice A2 l2.length cp2) l2.length (nums .u8 l2) ∧ (∀ j u, (Lib.byteCells (Lib.itoa (s.size : Int)))[j]? = some u → w3.cell? ((⟨D, 0, none⟩ : Addr).add j) = some u) ∧ B ≤ w3.heap.size) := Lib.hid (fun w3 HA => ⟨(HO2.out).kept (w' := w3) (row := some D) ⟨HA.2.os, HA.2.tape, HA.2.output, HA.2.size, HA.2.block⟩ (.inr (Ne.symm (own_ne HO2.out HD2.out (by decide)))), fun j u hj => by rw [Lib.add_plain, Nat.zero_add]; exact HA.1 j u hj, by have h1 := HA.2.size; have h2 := HK2.out.1.size; have h3 : W2.drew.heap.size = W2.heap.size := rfl; omega⟩)
 have hbc : (Lib.byteCells (Lib.itoa (s.size : Int))).length = (Lib.itoa (s.size : Int)).length * 1 := by rw [Lib.byteCells_length, Nat.mul_one]
 have HBC := Lib.hid hbc
 have HB1 : Hid (∀ u ∈ Lib.byteCells (Lib.itoa (s.size : Int)), u.oneCell' = true) := Lib.hid (by intro u' hu'; simp only [Lib.byteCells, List.mem_map] at hu'; obtain ⟨b, _, rfl⟩ := hu'; rfl)
 clear hbc
 have hm1 : l2.length + (Lib.itoa (s.size : Int)).length ≤ maxLen := by unfold maxLen; omega
 have HM1 := Lib.hid hm1
 clear hm1
 have HM2 : Hid ((l2.length + (Lib.itoa (s.size : Int)).length) * 1 ≤ 140737488355328) := Lib.hid (by omega)
 refine start_ (n := 13) (S := fun w' => w'.cell? ⟨g, 0, none⟩ = some (.slice A2 l2.length cp2)) (ds := [12]) #[false, false, false, false, false, false, false, false, false, false, false, false, false] (by kernel_rfl) rfl rfl (e0) (fun hHeld => ?_)
 refine pure_ (i := 0) (N := some 5) (v := ?_) (a' := ?_) #[true, false, false, false, false, false, false, false, false, false, false, false, false] rfl rfl (by kernel_rfl) (fun _ _ _ h => h) (Or.inl ⟨by rfl, ?_⟩) ?_ ?_
 rotate_left
 ·intro w'
  go_simp
  with_reducible rfl
 rotate_left
 ·simp only [Act.put, sA_, sB_, sC_, i64_w, i32_w]
  rfl
 refine pure_ (i := 1) (N := some 6) (v := ?_) (a' := ?_) #[true, true, false, false, false, false, false, false, false, false, false, false, false] rfl rfl (by kernel_rfl) (fun _ _ _ h => h) (Or.inl ⟨by rfl, ?_⟩) ?_ ?_
 rotate_left
 ·intro w'
  go_simp
  with_reducible rfl
 rotate_left
 ·simp only [Act.put, sA_, sB_, sC_, i64_w, i32_w]
  rfl
 refine pure_ (i := 2) (N := some 7) (v := ?_) (a' := ?_) #[true, true, true, false, false, false, false, false, false, false, false, false, false] rfl rfl (by kernel_rfl) (fun _ _ _ h => h) (Or.inl ⟨by rfl, ?_⟩) ?_ ?_
 rotate_left
 ·intro w'
  go_simp
  with_reducible rfl
 rotate_left
 ·simp only [Act.put, sA_, sB_, sC_, i64_w, i32_w]
  rfl
 refine pure_ (i := 3) (N := some 8) (v := ?_) (a' := ?_) #[true, true, true, true, false, false, false, false, false, false, false, false, false] rfl rfl (by kernel_rfl) (fun _ _ _ h => h) (Or.inl ⟨by rfl, ?_⟩) ?_ ?_
 rotate_left
 ·intro w'
  go_simp
  with_reducible rfl
 rotate_left
 ·simp only [Act.put, sA_, sB_, sC_, i64_w, i32_w]
  rfl
 refine pure_ (i := 5) (N := some 10) (v := ?_) (a' := ?_) #[true, true, true, true, false, true, false, false, false, false, false, false, false] rfl rfl (by kernel_rfl) (fun _ _ _ h => h) (Or.inl ⟨by rfl, ?_⟩) ?_ ?_
 rotate_left
 ·intro w'
  go_simp
  with_reducible rfl
 rotate_left
 ·simp only [Act.put, sA_, sB_, sC_, i64_w, i32_w]
  rfl
 refine pure_ (i := 6) (N := some 11) (v := ?_) (a' := ?_) #[true, true, true, true, false, true, true, false, false, false, false, false, false] rfl rfl (by kernel_rfl) (fun _ _ _ h => h) (Or.inl ⟨by rfl, ?_⟩) ?_ ?_
 rotate_left
 ·intro w'
  go_simp
  with_reducible rfl
 rotate_left
 ·simp only [Act.put, sA_, sB_, sC_, i64_w, i32_w]
  rfl
 refine pure_ (i := 7) (N := some 12) (v := ?_) (a' := ?_) #[true, true, true, true, false, true, true, true, false, false, false, false, false] rfl rfl (by kernel_rfl) (fun _ _ _ h => h) (Or.inl ⟨by rfl, ?_⟩) ?_ ?_
 rotate_left
 ·intro w'
  go_simp
  with_reducible rfl
 rotate_left
 ·simp only [Act.put, sA_, sB_, sC_, i64_w, i32_w]
  rfl
 refine take_ (i := 4) (N := some 9) (v := ?_) (a' := ?_) #[true, true, true, true, true, true, true, true, false, false, false, false, false] rfl rfl (by kernel_rfl) (fun _ _ _ h => h) (Or.inl ⟨by rfl, ?_⟩) hHeld ?_ ?_
 rotate_left
 ·intro w' s0
  go_simp
  with_reducible rfl
 rotate_left
 ·simp only [Act.put, sA_, sB_, sC_, i64_w, i32_w]
  rfl
 refine one_ (i := 8) (N := some 13) #[true, true, true, true, true, true, true, true, true, false, false, false, false] rfl rfl (by kernel_rfl) (by decide) (fun K hK => ?_)
 refine goes_ Tryd.func53 (by kernel_rfl) rfl #[.slice (some ⟨D, 0, none⟩) 0 24, .int .i64 (s.size : Int), .int .i64 10] (by rfl) rfl rfl (by simp only [List.map_toArray, List.map_cons, List.map_nil]; rfl) ?_
 with_reducible refine (HC.out).mono ?_
 rintro e w3 ⟨rfl, hA⟩
 refine ⟨_, rfl, ?_⟩
 have HA := Lib.hid hA
 clear hA
 refine hK.out _ _ ((blk_cell (HKP.out _ HA.out) 0).trans rfl) (fun hHeld => ?_)
 clear hK K
 refine norm_ (a' := ?_) ?_ ?_
 rotate_left
 ·show Act.put _ (some 13) _ = _
  simp only [Act.put, sA_, sB_, sC_, i64_w, i32_w]
  rfl
 refine one_ (i := 9) (N := some 14) #[true, true, true, true, true, true, true, true, true, true, false, false, false] rfl rfl (by kernel_rfl) (by decide) (fun K hK => ?_)
 refine step_app B (.tmp 9) (.tmp 13) 22 5 1 (by rfl) _ rfl (by rfl) Tryd.underlying22 info5 (by decide) (.slice A2 l2.length cp2) l2.length (nums .u8 l2) (by rfl) (HKO.out _ HA.out).1 ⟨D, 0, none⟩ (Lib.itoa (s.size : Int)).length 24 (Lib.byteCells (Lib.itoa (s.size : Int))) (by rfl) HBC.out (HKO.out _ HA.out).2.1 HB1.out HM1.out HM2.out (HKO.out _ HA.out).2.2 ?_
 intro A4 k4 w4 ho4 hg4
 have hb4 := blk_grown (HKP.out _ HA.out) hg4 (own_ne (HKO.out _ HA.out).1 (HKP.out _ HA.out) (by decide))
 have e4 : w4.cell? ⟨g, 0, none⟩ = some (.slice A2 l2.length cp2) := (blk_cell hb4 0).trans rfl
 have q4 : w4.frozen? ⟨g, 0, none⟩ = false := blk_frozen hb4 0
 have HO4 := Lib.hid ho4
 have HG4 := Lib.hid hg4
 have HB4 := Lib.hid hb4
 clear ho4 hg4 hb4
 refine hK.out _ _ (e4) (fun hHeld => ?_)
 clear hK K
 refine norm_ (a' := ?_) ?_ ?_
 rotate_left
 ·show Act.put _ (some 14) _ = _
  simp only [Act.put, sA_, sB_, sC_, i64_w, i32_w]
  rfl
 refine pure_ (i := 10) (N := some 15) (v := ?_) (a' := ?_) #[true, true, true, true, true, true, true, true, true, true, true, false, false] rfl rfl (by kernel_rfl) (fun _ _ _ h => h) (Or.inl ⟨by rfl, ?_⟩) ?_ ?_
 rotate_left
 ·intro w'
  go_simp
  with_reducible rfl
 rotate_left
 ·simp only [Act.put, sA_, sB_, sC_, i64_w, i32_w]
  rfl
 refine pure_ (i := 11) (N := some 16) (v := ?_) (a' := ?_) #[true, true, true, true, true, true, true, true, true, true, true, true, false] rfl rfl (by kernel_rfl) (fun _ _ _ h => h) (Or.inl ⟨by rfl, ?_⟩) ?_ ?_
 rotate_left
 ·intro w'
  go_simp
  with_reducible rfl
 rotate_left
 ·simp only [Act.put, sA_, sB_, sC_, i64_w, i32_w]
  rfl
 refine last_ (i := 12) (N := none) #[true, true, true, true, true, true, true, true, true, true, true, true, true] rfl rfl (by kernel_rfl) (by decide) (fun K hK => ?_)
 refine skip_ (w1 := ?_) (by rfl) rfl ?_ ?_
 rotate_left
 ·go_simp
  rfl
 refine hK.out _ _ ?_
 clear hK K
 refine done_ (by kernel_rfl) ?_
 have HW5 : Hid (IsW B (w4.setCell ⟨g, 0, none⟩ (.slice A4 (l2.length + (Lib.itoa (s.size : Int)).length) k4)) g (l2 ++ bl (Lib.itoa (s.size : Int))) n) := Lib.hid (IsW.put (m1 := l2.length + (Lib.itoa (s.size : Int)).length) hBg (HKP.out _ HA.out) (HKO.out _ HA.out).1 (by have h := HO4.out; rw [← nums_bl, ← nums_append] at h; exact h) (by rw [List.length_append, bl_length]) HG4.out)
 have HK3 : Hid (WK B g w w3) := Lib.hid (WK.of_drew (HK2.out) (HA.out.2) HD2.out (by rw [HDW.out]; exact hBw) (by rw [HDW.out]; exact Nat.le_refl _))
 have HK5 : Hid (WK B g w (w4.setCell ⟨g, 0, none⟩ (.slice A4 (l2.length + (Lib.itoa (s.size : Int)).length) k4))) := Lib.hid ((HK3.out.grown (HKO.out _ HA.out).2.2 (HKO.out _ HA.out).1 HG4.out).setW hBg _ _)
 generalize w4.setCell ⟨g, 0, none⟩ (.slice A4 (l2.length + (Lib.itoa (s.size : Int)).length) k4) = W5 at HW5 HK5 ⊢
 have hl3 : (l2 ++ bl (Lib.itoa (s.size : Int))).length ≤ l.length + 25 := by rw [List.length_append, bl_length]; omega
 obtain ⟨l3, hl3e⟩ : ∃ l3, l2 ++ bl (Lib.itoa (s.size : Int)) = l3 := ⟨_, rfl⟩
 rw [hl3e] at HW5 hl3
 have HL3 := Lib.hid hl3e
 clear hl3e hHeld e0 e1 q0 q1 e4 q4
 obtain ⟨A6, k6, c6, d6, f6, g6, hb6, ho6⟩ := (HW5.out).open_
 have HB6 := Lib.hid hb6
 have HO6 := Lib.hid ho6
 clear hb6 ho6
 have hB5 : B ≤ W5.heap.size := by have := HK5.out.1.size; omega
 go_wp2_with (first
  | (at_builtin; refine put_str (l3 ++ [58]) (l3.length + 1) s rfl _ _ 22 9 5 rfl Tryd.underlying22 Tryd.underlying9 info5 rfl rfl HB8.out (by decide) HO8.out HS8.out (by omega) ?_; intro A9 k9 w9 HO9 HG9 d9 e9 g9 h9)
  | (at_builtin; refine put_num l3 58 W5.heap.size rfl rfl _ _ 22 5 rfl Tryd.underlying22 info5 rfl rfl HB6.out (by decide) HO6.out hB5 (by omega) ?_; intro A7 k7 w7 HO7 HG7 d7 e7 g7 h7; have hP := put_blk HB6.out HO6.out HO7.out HG7.out; have HB8 := Lib.hid hP.1; have HO8 := Lib.hid hP.2; have HK8 := Lib.hid ((HK5.out.grown hB5 HO6.out HG7.out).setW hBg 0 (.slice A7 (l3.length + 1) k7)); have HS8 := Lib.hid (Nat.le_trans hBw HK8.out.1.size); clear hP))
 first | go_end0 | ((try simp only [Exit.inBlock, Exit.then]); refine bodyPost_ret (results_none rfl _ _ _) rfl ?_)
 refine ⟨rfl, ?_, (HK8.out.grown HS8.out HO8.out HG9.out).setW hBg _ _⟩
 have hfin := IsW.put hBg HB8.out HO8.out HO9.out (by rw [List.length_append, List.length_append, bytesOf_length]; rfl) HG9.out
 rw [← HL3.out, ← HL2.out] at hfin ⊢
 simpa using hfin
end Go.Proofs.YtfpopmojlmpopaaDoor.H

end
section
namespace Go.Proofs.YtfpopmojlmpopaaDoor.H
open Go.RowKit Go.Proofs.YtfpopmojlmpopaaDoorW.PrintWords Go.Proofs.YtfpopmojlmpopaaDoorW.PrintLast Go.Proofs.YtfpopmojlmpopaaDoorW.PrintMore
set_option linter.unusedVariables false
set_option linter.unusedSimpArgs false
set_option maxHeartbeats 4000000 in
set_option maxRecDepth 100000 in
theorem Writer_Data (B g : Nat) (l : List Int) (n : Nat) (w : World) (hI : IsW B w g l n) (hn : n ≤ 1000) (hl : l.length ≤ 140737488355328) :
  Calls Tryd.prog 33 #[.pointer (some ⟨g, 0, none⟩)] w fun e w' => e = .returned (.string (strOfNums l ++ ⟨(Lib.repeatL [101] n).toArray⟩)) ∧ Below w.heap.size w w' := by
 obtain ⟨W2, hW2⟩ : ∃ W2, W2 = w := ⟨_, rfl⟩
 rw [← hW2] at hI ⊢
 clear hW2
 obtain ⟨A2, cp2, e0, e1, q0, q1, hb2, ho2⟩ := hI.open_
 have HB2 := Lib.hid hb2
 have HO2 := Lib.hid ho2
 clear hb2 ho2
 have HC := Lib.hid (Tryd.strings_Repeat ⟨#[101]⟩ n W2.drew (by omega) (by show 1 * n ≤ _; omega))
 have hsn : (strOfNums l).size = l.length := by simp [strOfNums, ByteArray.size]
 have hrl : (Lib.repeatL [101] n).length = n := by rw [Lib.repeatL_length]; simp
 have hno : (9223372036854775807 < (strOfNums l).size + (Lib.repeatL [101] n).length) = False := eq_false (by rw [hsn, hrl]; omega)
 clear hsn hrl
 go_enter Tryd.func33, Tryd.ntmps33
 go_wp2_with fail
 refine start_ (n := 12) (S := fun w' => w'.cell? ⟨g, 0, none⟩ = some (.slice A2 l.length cp2) ∧ w'.cell? ⟨g, 1, none⟩ = some (.int .i64 n) ∧ w'.ownsRow B 5 1 (.slice A2 l.length cp2) l.length (nums .u8 l)) (ds := []) #[false, false, false, false, false, false, false, false, false, false, false, false] (by kernel_rfl) rfl rfl ⟨e0, e1, HO2.out⟩ (fun hHeld => ?_)
 refine pure_ (i := 0) (N := some 3) (v := ?_) (a' := ?_) #[true, false, false, false, false, false, false, false, false, false, false, false] rfl rfl (by kernel_rfl) (fun _ _ _ h => h) (Or.inl ⟨by rfl, ?_⟩) ?_ ?_
 rotate_left
 ·intro w'
  go_simp
  with_reducible rfl
 rotate_left
 ·simp only [Act.put, sA_, sB_, sC_, i64_w, i32_w]
  rfl
 refine pure_ (i := 1) (N := some 4) (v := ?_) (a' := ?_) #[true, true, false, false, false, false, false, false, false, false, false, false] rfl rfl (by kernel_rfl) (fun _ _ _ h => h) (Or.inl ⟨by rfl, ?_⟩) ?_ ?_
 rotate_left
 ·intro w'
  go_simp
  with_reducible rfl
 rotate_left
 ·simp only [Act.put, sA_, sB_, sC_, i64_w, i32_w]
  rfl
 refine pure_ (i := 2) (N := some 5) (v := ?_) (a' := ?_) #[true, true, true, false, false, false, false, false, false, false, false, false] rfl rfl (by kernel_rfl) (fun _ _ _ h => h) (Or.inl ⟨by rfl, ?_⟩) ?_ ?_
 rotate_left
 ·intro w'
  go_simp
  with_reducible rfl
 rotate_left
 ·simp only [Act.put, sA_, sB_, sC_, i64_w, i32_w]
  rfl
 refine pure_ (i := 5) (N := some 8) (v := ?_) (a' := ?_) #[true, true, true, false, false, true, false, false, false, false, false, false] rfl rfl (by kernel_rfl) (fun _ _ _ h => h) (Or.inl ⟨by rfl, ?_⟩) ?_ ?_
 rotate_left
 ·intro w'
  go_simp
  with_reducible rfl
 rotate_left
 ·simp only [Act.put, sA_, sB_, sC_, i64_w, i32_w]
  rfl
 refine pure_ (i := 6) (N := some 9) (v := ?_) (a' := ?_) #[true, true, true, false, false, true, true, false, false, false, false, false] rfl rfl (by kernel_rfl) (fun _ _ _ h => h) (Or.inl ⟨by rfl, ?_⟩) ?_ ?_
 rotate_left
 ·intro w'
  go_simp
  with_reducible rfl
 rotate_left
 ·simp only [Act.put, sA_, sB_, sC_, i64_w, i32_w]
  rfl
 refine pure_ (i := 7) (N := some 10) (v := ?_) (a' := ?_) #[true, true, true, false, false, true, true, true, false, false, false, false] rfl rfl (by kernel_rfl) (fun _ _ _ h => h) (Or.inl ⟨by rfl, ?_⟩) ?_ ?_
 rotate_left
 ·intro w'
  go_simp
  with_reducible rfl
 rotate_left
 ·simp only [Act.put, sA_, sB_, sC_, i64_w, i32_w]
  rfl
 refine take_ (i := 3) (N := some 6) (v := ?_) (a' := ?_) #[true, true, true, true, false, true, true, true, false, false, false, false] rfl rfl (by kernel_rfl) (fun _ _ _ h => h) (Or.inl ⟨by rfl, ?_⟩) hHeld ?_ ?_
 rotate_left
 ·rintro w' ⟨s0, s1, s2⟩
  go_simp
  with_reducible rfl
 rotate_left
 ·simp only [Act.put, sA_, sB_, sC_, i64_w, i32_w]
  rfl
 refine take_ (i := 4) (N := some 7) (v := ?_) (a' := ?_) #[true, true, true, true, true, true, true, true, false, false, false, false] rfl rfl (by kernel_rfl) (fun _ _ _ h => h) (Or.inl ⟨by rfl, ?_⟩) hHeld ?_ ?_
 rotate_left
 ·rintro w' ⟨s0, s1, s2⟩
  have hcv := own_string (P := Tryd.prog) Tryd.underlying22 Tryd.underlying5 Tryd.underlying9 s2
  go_simp
  with_reducible rfl
 rotate_left
 ·simp only [Act.put, sA_, sB_, sC_, i64_w, i32_w]
  rfl
 refine take_ (i := 8) (N := some 11) (v := ?_) (a' := ?_) #[true, true, true, true, true, true, true, true, true, false, false, false] rfl rfl (by kernel_rfl) (fun _ _ _ h => h) (Or.inl ⟨by rfl, ?_⟩) hHeld ?_ ?_
 rotate_left
 ·rintro w' ⟨s0, s1, s2⟩
  go_simp
  with_reducible rfl
 rotate_left
 ·simp only [Act.put, sA_, sB_, sC_, i64_w, i32_w]
  rfl
 refine one_ (i := 9) (N := some 12) #[true, true, true, true, true, true, true, true, true, true, false, false] rfl rfl (by kernel_rfl) (by decide) (fun K hK => ?_)
 refine goes_ Tryd.func55 (by kernel_rfl) rfl #[.string ⟨#[101]⟩, .int .i64 (n : Int)] (by rfl) rfl rfl (by simp only [List.map_toArray, List.map_cons, List.map_nil]; rfl) ?_
 with_reducible refine (HC.out).mono ?_
 rintro e w3 ⟨rfl, hb⟩
 refine ⟨_, rfl, ?_⟩
 have HR3 := Lib.hid (show Below W2.heap.size W2 w3 from ⟨hb.os, hb.tape, hb.output, hb.size, hb.block⟩)
 clear hb
 refine hK.out _ _ ⟨(HR3.out.cell (blk_lt HB2.out)).trans e0, (HR3.out.cell (blk_lt HB2.out)).trans e1, pw_own_below (w := W2) HO2.out HR3.out⟩ (fun hHeld => ?_)
 clear hK K
 refine norm_ (a' := ?_) ?_ ?_
 rotate_left
 ·show Act.put _ (some 12) _ = _
  simp only [Act.put, sA_, sB_, sC_, i64_w, i32_w]
  rfl
 refine pure_ (i := 10) (N := some 13) (v := ?_) (a' := ?_) #[true, true, true, true, true, true, true, true, true, true, true, false] rfl rfl (by kernel_rfl) (fun _ _ _ h => h) (Or.inl ⟨by rfl, ?_⟩) ?_ ?_
 rotate_left
 ·intro w'
  go_simp
  with_reducible rfl
 rotate_left
 ·simp only [Act.put, sA_, sB_, sC_, i64_w, i32_w]
  rfl
 refine pure_ (i := 11) (N := some 2) (v := ?_) (a' := ?_) #[true, true, true, true, true, true, true, true, true, true, true, true] rfl rfl (by kernel_rfl) (fun _ _ _ h => h) (Or.inl ⟨by rfl, ?_⟩) ?_ ?_
 rotate_left
 ·intro w'
  go_simp
  with_reducible rfl
 rotate_left
 ·simp only [Act.put, sA_, sB_, sC_, i64_w, i32_w]
  rfl
 refine done_ (by kernel_rfl) ?_
 go_wp2
 go_ret
 exact ⟨rfl, HR3.out⟩
def txt (s : ByteArray) : List Int := bl (Lib.itoa s.size) ++ 58 :: bytesOf s
def txts (ls : List ByteArray) : List Int := ls.flatMap txt
theorem txts_snoc (ls : List ByteArray) (k : Nat) (h : k < ls.length) : txts (ls.take (k + 1)) = txts (ls.take k) ++ txt (rdOf ByteArray.empty ls k) := by
 unfold txts
 rw [List.take_succ_eq_append_getElem h, List.flatMap_append]
 simp [rdOf, List.getD, h]
theorem txt_len_le (ls : List ByteArray) (k : Nat) (h : k < ls.length) : (txts (ls.take k)).length + (txt (rdOf ByteArray.empty ls k)).length ≤ (txts ls).length := by
 have h1 := txts_snoc ls k h
 have h2 : txts ls = txts (ls.take (k + 1)) ++ txts (ls.drop (k + 1)) := by
  rw [txts, txts, txts, ← List.flatMap_append, List.take_append_drop]
 rw [h2, h1, List.length_append, List.length_append]
 omega
theorem txt_size (s : ByteArray) : s.size < (txt s).length := by
 simp only [txt, List.length_append, List.length_cons, bytesOf_length]; omega
theorem C_of {w0 w : World} {α : Type} {d : Kd α} {A : Option Addr} {n : Nat} {xs : List α} (h : d.C w0 A n xs) (hb : Below w0.heap.size w0 w) : d.C w A n xs := Kd.C_below h hb
def Tab (B : Nat) (w : World) : Prop := Lib.TabBelow Tryd.prog B w "internal/strconv.uint64pow10" .u64 Lib.pow10Tab
theorem Tab.on {B : Nat} {w w1 : World} (h : Tab B w) (hb : Below B w w1) : Tab B w1 := Lib.TabBelow.on h hb
set_option maxHeartbeats 1000000 in
set_option maxRecDepth 100000 in
theorem putLines_calls (w0 : World) (g : Nat) (l : List Int) (n : Int) (A : Option Addr) (c : Nat) (ls : List ByteArray) (w : World) (hb0 : Below w0.heap.size w0 w) (hI : IsW w0.heap.size w g l n) (hn0 : 0 ≤ n) (hn1 : n ≤ 999)
  (hr : Kd.C Kd.string w0 A ls.length ls) (hc : ls.length ≤ c) (hls : ls.length ≤ 140737488355328) (hl : l.length + (txts ls).length + 200 ≤ 140737488355328) (htab : (∃ s ∈ ls, 100 ≤ s.size) → Tab w0.heap.size w) :
  Calls Tryd.prog 31 #[.pointer (some ⟨g, 0, none⟩), .slice A ls.length c] w fun e w' => e = .returned (.tuple #[]) ∧ IsW w0.heap.size w' g (l ++ (108 :: txts ls ++ [101])) n ∧ WK w0.heap.size g w w' := by
 have HB0 := Lib.hid hb0
 have HI := Lib.hid hI
 have HR := Lib.hid hr
 have HT := Lib.hid htab
 have hbs : w0.heap.size ≤ w.heap.size := hb0.size
 clear hb0 hI hr htab
 go_enter Tryd.func31, Tryd.ntmps31
 go_wp2_with fail
 refine (Writer_Open _ g l n w HI.out hbs hn0 (by omega) (by omega)).mono ?_
 rintro e w1 ⟨rfl, hI1, hK1⟩
 have HI1 := Lib.hid hI1
 have HK1 := Lib.hid hK1
 clear hI1 hK1
 go_wp2_with fail
 go_loopw [10] (fun v wr => ∃ k : Nat, k ≤ ls.length ∧ v = .int .i64 k ∧ Hid (IsW w0.heap.size wr g (l ++ [108] ++ txts (ls.take k)) (n + 1)) ∧ Hid (WK w0.heap.size g w wr)) (fun v _ => ls.length - (intOf v).toNat)
 case atStart => exact ⟨0, by omega, rfl, by simpa [txts] using HI1, HK1⟩
 case round =>
  obtain ⟨k, hk, rfl, HIk, HKk⟩ := hrel
  have hb1 : Below w0.heap.size w0 wr := HB0.out.trans HKk.out.1
  have HB1 := Lib.hid hb1
  clear hb1
  by_cases hlt : k < ls.length
  ·obtain ⟨ad, rfl, hcell⟩ := Kd.at_string (C_of HR.out HB1.out) k (by omega) (by omega)
   rw [Int.toNat_natCast] at hcell
   have hsn := Lib.hid (txts_snoc ls k hlt)
   have hle := txt_len_le ls k hlt
   have hsz := txt_size (rdOf ByteArray.empty ls k)
   obtain ⟨s, hs⟩ : ∃ s, rdOf ByteArray.empty ls k = s := ⟨_, rfl⟩
   have hmem : s ∈ ls := by rw [← hs]; simp [rdOf, List.getD, hlt]
   rw [hs] at hcell hsn hle hsz
   have HS := Lib.hid hs
   clear hs
   go_wp2_with fail
   refine (Writer_Text _ g _ _ s wr HIk.out (Nat.le_trans hbs HKk.out.1.size) (by simp only [List.length_append, List.length_cons, List.length_nil]; omega) (fun h => (HT.out ⟨s, hmem, by omega⟩).on HKk.out.1)).mono ?_
   rintro e w2 ⟨rfl, hI2, hK2⟩
   have HI2 := Lib.hid hI2
   have HK2 := Lib.hid hK2
   clear hI2 hK2 hcell
   go_wp2_with fail
   go_roundw
   case rel => exact ⟨k + 1, by omega, by go_num, Lib.hid (by rw [hsn.out]; simpa [txt] using HI2.out), Lib.hid (HKk.out.trans HK2.out)⟩
   case measure => simp [intOf]; omega
  ·obtain rfl : k = ls.length := by omega
   go_wp2_with fail
   refine (Writer_Close _ g _ _ wr HIk.out (Nat.le_trans hbs HKk.out.1.size) (by omega) (by omega) (by simp only [List.length_append, List.length_cons, List.length_nil, List.take_length]; omega)).mono ?_
   rintro e w2 ⟨rfl, hI2, hK2⟩
   have HI2 := Lib.hid hI2
   have HK2 := Lib.hid hK2
   clear hI2 hK2
   go_wp2_with fail
   first | go_end0 | ((try simp only [Exit.inBlock, Exit.then]); refine bodyPost_ret (results_none rfl _ _ _) rfl ?_)
   refine ⟨rfl, ?_, HKk.out.trans HK2.out⟩
   have h := HI2.out
   rw [show n + 1 - 1 = n from by omega] at h
   simpa using h
end Go.Proofs.YtfpopmojlmpopaaDoor.H

end
section
namespace Go.Proofs.YtfpopmojlmpopaaDoor.H
open Go.RowKit Go.Proofs.YtfpopmojlmpopaaDoorW.PrintWords Go.Proofs.YtfpopmojlmpopaaDoorW.PrintLast Go.Proofs.YtfpopmojlmpopaaDoorW.PrintMore Go.Proofs.YtfpopmojlmpopaaDoor.G
set_option linter.unusedVariables false
set_option linter.unusedSimpArgs false
def intT (n : Int) : List Int := 105 :: bl (Lib.itoa n) ++ [59]
def editT (x : S52) : List Int := 108 :: (intT x.f0 ++ intT x.f1 ++ (108 :: txts x.f2 ++ [101]) ++ [101])
def edsT (l : List S52) : List Int := l.flatMap editT
def encT (a0 a1 a2 a3 a4 : Int) (l5 : List ByteArray) (l6 : List S52) : List Int :=
 108 :: (intT a0 ++ intT a1 ++ intT a2 ++ intT a3 ++ intT a4 ++ (108 :: txts l5 ++ [101]) ++ (108 :: edsT l6))
def okI (n : Int) : Bool := decide (0 ≤ n) && decide (n ≤ 9223372036854775807)
def okE (a0 a1 a2 a3 a4 : Int) (l5 : List ByteArray) (l6 : List S52) : Bool :=
 okI a0 && okI a1 && okI a2 && okI a3 && okI a4 && l6.all (fun x => okI x.f0 && okI x.f1 && decide (x.f2.length ≤ 140737488355328)) && decide (l5.length ≤ 140737488355328) && decide (l6.length ≤ 140737488355328) && decide ((encT a0 a1 a2 a3 a4 l5 l6).length + 1000 ≤ 140737488351232)
def encB (a0 a1 a2 a3 a4 : Int) (l5 : List ByteArray) (l6 : List S52) : List Int := encT a0 a1 a2 a3 a4 l5 l6 ++ [101, 101]
def frame_Encode.f (k : Nat) (a0 a1 a2 a3 a4 : Int) (l5 : List ByteArray) (l6 : List S52) : Option (List Int × Int) :=
 (frame_Check.f k a0 a1 a2 a3 a4 l5 l6).bind fun e => if e = 0 then (if okE a0 a1 a2 a3 a4 l5 l6 = true then (frame_Sum.f (encB a0 a1 a2 a3 a4 l5 l6)).bind fun s => some (encB a0 a1 a2 a3 a4 l5 l6 ++ digs s, 0) else none) else some ([], e)
theorem edsT_snoc (ls : List S52) (k : Nat) (h : k < ls.length) : edsT (ls.take (k + 1)) = edsT (ls.take k) ++ editT (rd_T52 ls k) := by
 unfold edsT
 rw [List.take_succ_eq_append_getElem h, List.flatMap_append]
 simp [rd_T52, List.getD, h]
theorem edsT_le (ls : List S52) (k : Nat) (h : k < ls.length) : (edsT (ls.take k)).length + (editT (rd_T52 ls k)).length ≤ (edsT ls).length := by
 have h1 := edsT_snoc ls k h
 have h2 : edsT ls = edsT (ls.take (k + 1)) ++ edsT (ls.drop (k + 1)) := by
  rw [edsT, edsT, edsT, ← List.flatMap_append, List.take_append_drop]
 rw [h2, h1, List.length_append, List.length_append]
 omega
theorem okI_open {n : Int} (h : okI n = true) : 0 ≤ n ∧ n ≤ 9223372036854775807 := by
 simpa [okI] using h
theorem okE_open {a0 a1 a2 a3 a4 : Int} {l5 : List ByteArray} {l6 : List S52} (h : okE a0 a1 a2 a3 a4 l5 l6 = true) :
  (0 ≤ a0 ∧ a0 ≤ 9223372036854775807) ∧ (0 ≤ a1 ∧ a1 ≤ 9223372036854775807) ∧ (0 ≤ a2 ∧ a2 ≤ 9223372036854775807) ∧ (0 ≤ a3 ∧ a3 ≤ 9223372036854775807) ∧ (0 ≤ a4 ∧ a4 ≤ 9223372036854775807) ∧
   (∀ x ∈ l6, (0 ≤ x.f0 ∧ x.f0 ≤ 9223372036854775807) ∧ (0 ≤ x.f1 ∧ x.f1 ≤ 9223372036854775807) ∧ x.f2.length ≤ 140737488355328) ∧ l5.length ≤ 140737488355328 ∧ l6.length ≤ 140737488355328 ∧ (encT a0 a1 a2 a3 a4 l5 l6).length + 1000 ≤ 140737488351232 := by
 simp only [okE, Bool.and_eq_true, decide_eq_true_eq, List.all_eq_true] at h
 obtain ⟨⟨⟨⟨⟨⟨⟨⟨h0, h1⟩, h2⟩, h3⟩, h4⟩, h5⟩, h6⟩, h7⟩, h8⟩ := h
 exact ⟨okI_open h0, okI_open h1, okI_open h2, okI_open h3, okI_open h4, fun x hx => ⟨okI_open (h5 x hx).1.1, okI_open (h5 x hx).1.2, (h5 x hx).2⟩, h6, h7, h8⟩
theorem encT_parts (a0 a1 a2 a3 a4 : Int) (l5 : List ByteArray) (l6 : List S52) : (encT a0 a1 a2 a3 a4 l5 l6).length = 1 + (bl (Lib.itoa a0)).length + (bl (Lib.itoa a1)).length + (bl (Lib.itoa a2)).length + (bl (Lib.itoa a3)).length + (bl (Lib.itoa a4)).length + 10 + ((txts l5).length + 2) + (1 + (edsT l6).length) := by
 simp only [encT, intT, List.length_append, List.length_cons, List.length_nil]; omega
theorem frame_Sum.ok {l : List Int} {r : Int} (h : frame_Sum.f l = some r) : okBytes l = true := by
 unfold frame_Sum.f at h
 split at h
 ·assumption
 ·cases h
theorem okBytes_left {a b : List Int} (h : okBytes (a ++ b) = true) : ∀ x ∈ a, 0 ≤ x ∧ x ≤ 255 := by
 simp only [okBytes, Bool.and_eq_true, List.all_eq_true, decide_eq_true_eq] at h
 exact fun x hx => h.1 x (List.mem_append_left _ hx)
theorem bytesOf_append (a b : ByteArray) : bytesOf (a ++ b) = bytesOf a ++ bytesOf b := by simp [bytesOf]
theorem bytesOf_strOfNums (l : List Int) (h : ∀ x ∈ l, 0 ≤ x ∧ x ≤ 255) : bytesOf (strOfNums l) = l := by
 unfold bytesOf strOfNums
 rw [List.map_map]
 conv => rhs; rw [← List.map_id l]
 refine List.map_congr_left fun x hx => ?_
 obtain ⟨h0, h1⟩ := h x hx
 have h2 : x.toNat < 256 := by omega
 simp only [Function.comp, id]
 rw [UInt8.toNat_ofNat']
 omega
theorem bytesOf_enc (l : List Int) (h : ∀ x ∈ l, 0 ≤ x ∧ x ≤ 255) : bytesOf (strOfNums l ++ ⟨(Lib.repeatL [101] 2).toArray⟩) = l ++ [101, 101] := by
 rw [bytesOf_append, bytesOf_strOfNums l h]
 rfl
theorem bytesCells_size (w : World) (e : TypeId) (s : ByteArray) (h : s.size ≤ grownCap w s.size 0 e) : (Lib.bytesCells w e s).size = grownCap w s.size 0 e := by
 have h1 : s.data.size = s.size := rfl
 simp only [Lib.bytesCells, Array.size_append, Array.size_map, Array.size_replicate, h1]
 omega
theorem Sum_n (A0 : Option Addr) (l0 : List Int) (n c0 : Nat) (m : Unit) (r : Int) (w : World) (hn : l0.length = n) (hr0 : Kd.C (Kd.int .u8) w A0 l0.length l0) (hc0 : n ≤ c0) (h : frame_Sum.f l0 = some r) :
  Calls Tryd.prog 11 #[.slice A0 n c0] w fun e w' => e = .returned (.int .u16 r) ∧ Below w.heap.size w w' := by
 subst hn
 exact frame_Sum.calls A0 c0 l0 r w hr0 hc0 h
theorem cells_of_C {w : World} {b : Nat} {l : List Int} (h : Kd.C (Kd.int .u8) w (some ⟨b, 0, none⟩) l.length l) : ∀ j u, (nums .u8 l)[j]? = some u → w.cell? ⟨b, 0 + j, none⟩ = some u := by
 intro j u hj
 have hl : j < l.length := by have := (List.getElem?_eq_some_iff.1 hj).1; rwa [nums_length] at this
 obtain ⟨ad, e, hc⟩ := Kd.at_int h j (by omega) (by omega)
 obtain rfl := Option.some.inj e
 rw [Int.toNat_natCast, add_plain] at hc
 rw [Nat.zero_add, hc, ← hj]
 simp [nums, rd, List.getD, hl]
theorem C_of_cells {w : World} {b : Nat} {l : List Int} (hl : l.length ≤ 9223372036854775807) (h : ∀ j, j < l.length → w.cell? ⟨b, j, none⟩ = some (.int .u8 (l.getD j 0))) : Kd.C (Kd.int .u8) w (some ⟨b, 0, none⟩) l.length l :=
 Kd.C_of_reads (d := (0 : Int)) (h1 := fun _ => rfl) ⟨rfl, hl, fun _ => ⟨_, rfl, fun j hj => by rw [add_plain]; exact h j hj⟩⟩
theorem nums_one (l : List Int) : ∀ u ∈ nums .u8 l, u.oneCell' = true := by
 intro u hu
 simp only [nums, List.mem_map] at hu
 obtain ⟨x, _, rfl⟩ := hu
 rfl
theorem setCells_size (D : Nat) (vs : List Value) (o : Nat) (w : World) : (w.setCells D o vs).heap.size = w.heap.size := by
 induction vs generalizing o w with
 | nil => rfl
 | cons v vs ih => exact (ih (o + 1) _).trans (by simp [World.setCell])
theorem below_setCells {B : Nat} {a w : World} (h : Below B a w) {D : Nat} (hD : B ≤ D) {o : Nat} {vs : List Value} : Below B a (w.setCells D o vs) :=
 h.trans ⟨(setCells_grownBy D vs o w).os, (setCells_grownBy D vs o w).tape, (setCells_grownBy D vs o w).output, (setCells_grownBy D vs o w).size, fun k hk => by
  by_cases hlt : k < w.heap.size
  ·exact (setCells_grownBy D vs o w).block k hlt (fun e => by injection e with e; omega)
  ·have hs : (w.setCells D o vs).heap.size = w.heap.size := setCells_size D vs o w
   rw [Array.getElem?_eq_none (by omega), Array.getElem?_eq_none (by omega)]⟩
set_option maxHeartbeats 4000000 in
set_option maxRecDepth 100000 in
theorem frame_Encode.calls (k : Nat) (a0_0 a0_1 a0_2 a0_3 a0_4 : Int) (A0_5 : Option Addr) (c0_5 : Nat) (l0_5 : List ByteArray) (A0_6 : Option Addr) (c0_6 : Nat) (l0_6 : List S52) (r1 : List Int) (r2 : Int) (w : World) (hL : Laid w)
  (hr0_5 : Kd.C Kd.string w A0_5 l0_5.length l0_5) (hc0_5 : l0_5.length ≤ c0_5) (hr0_6 : Kd.C k52 w A0_6 l0_6.length l0_6) (hc0_6 : l0_6.length ≤ c0_6) (h : frame_Encode.f k a0_0 a0_1 a0_2 a0_3 a0_4 l0_5 l0_6 = some (r1, r2)) :
  Calls Tryd.prog 14 #[.agg #[.int .i64 a0_0, .int .i64 a0_1, .int .i64 a0_2, .int .i64 a0_3, .int .i64 a0_4, .slice A0_5 l0_5.length c0_5, .slice A0_6 l0_6.length c0_6]] w fun e w' => ∃ A c, e = .returned (.tuple #[.slice A r1.length c, .int .i64 r2]) ∧ r1.length ≤ c ∧ Kd.C (Kd.int .u8) w' A r1.length r1 ∧ Below w.heap.size w w' := by
 unfold frame_Encode.f at h
 rw [Option.bind_eq_some_iff] at h
 obtain ⟨ec, hck, h⟩ := h
 have HL := Lib.hid hL
 have HR5 := Lib.hid hr0_5
 have HR6 := Lib.hid hr0_6
 have HCK := Lib.hid hck
 clear hL hr0_5 hr0_6 hck
 by_cases hec : ec = 0
 ·rw [if_pos hec] at h
  have hok : okE a0_0 a0_1 a0_2 a0_3 a0_4 l0_5 l0_6 = true := by
   split at h
   ·assumption
   ·cases h
  rw [if_pos hok, Option.bind_eq_some_iff] at h
  obtain ⟨sm, hsm, h⟩ := h
  simp only [Option.some.injEq, Prod.mk.injEq] at h
  obtain ⟨hr1, rfl⟩ := h
  subst hec
  have HS := Lib.hid hsm
  have HR1 := Lib.hid hr1
  have hsr := frame_Sum.range hsm
  obtain ⟨⟨i00, i01⟩, ⟨i10, i11⟩, ⟨i20, i21⟩, ⟨i30, i31⟩, ⟨i40, i41⟩, heds, hl5, hl6, hT⟩ := okE_open hok
  have HE := Lib.hid heds
  clear hsm hr1 hok heds
  have hbytes := encT_parts a0_0 a0_1 a0_2 a0_3 a0_4 l0_5 l0_6
  have ix0 : ∀ W, (Instr.index 58 (.agg #[.int .i64 a0_0, .int .i64 a0_1, .int .i64 a0_2, .int .i64 a0_3, .int .i64 a0_4]) (.int .i64 0)).run Tryd.prog W = .ok (.int .i64 a0_0) W := fun _ => by kernel_rfl
  have ix1 : ∀ W, (Instr.index 58 (.agg #[.int .i64 a0_0, .int .i64 a0_1, .int .i64 a0_2, .int .i64 a0_3, .int .i64 a0_4]) (.int .i64 1)).run Tryd.prog W = .ok (.int .i64 a0_1) W := fun _ => by kernel_rfl
  have ix2 : ∀ W, (Instr.index 58 (.agg #[.int .i64 a0_0, .int .i64 a0_1, .int .i64 a0_2, .int .i64 a0_3, .int .i64 a0_4]) (.int .i64 2)).run Tryd.prog W = .ok (.int .i64 a0_2) W := fun _ => by kernel_rfl
  have ix3 : ∀ W, (Instr.index 58 (.agg #[.int .i64 a0_0, .int .i64 a0_1, .int .i64 a0_2, .int .i64 a0_3, .int .i64 a0_4]) (.int .i64 3)).run Tryd.prog W = .ok (.int .i64 a0_3) W := fun _ => by kernel_rfl
  have ix4 : ∀ W, (Instr.index 58 (.agg #[.int .i64 a0_0, .int .i64 a0_1, .int .i64 a0_2, .int .i64 a0_3, .int .i64 a0_4]) (.int .i64 4)).run Tryd.prog W = .ok (.int .i64 a0_4) W := fun _ => by kernel_rfl
  have hu31 := Tryd.underlying31
  go_enter Tryd.func14, Tryd.ntmps14
  go_wp2_with fail
  refine (frame_Check.calls k a0_0 a0_1 a0_2 a0_3 a0_4 _ _ l0_5 _ _ l0_6 0 _ (C_of HR5.out (below_alloc (Below.refl _ _) _)) hc0_5 (C_of HR6.out (below_alloc (Below.refl _ _) _)) hc0_6 HCK.out).mono ?_
  rintro e w1 ⟨rfl, hb1⟩
  have HX1 : Hid (w1.heap[w.heap.size]? = some (.cells #[.int .i64 a0_0, .int .i64 a0_1, .int .i64 a0_2, .int .i64 a0_3, .int .i64 a0_4, .slice A0_5 l0_5.length c0_5, .slice A0_6 l0_6.length c0_6] 31 (0, 0))) := Lib.hid ((hb1.block _ (by simp)).trans (heap_alloc_new _ _))
  have HB1 : Hid (Below w.heap.size w w1) := Lib.hid ((below_alloc (Below.refl _ _) _).trans (hb1.mono (by simp)))
  have hs1 : w.heap.size < w1.heap.size := blk_lt HX1.out
  clear hb1
  have HI1 : Hid (IsW w.heap.size (w1.alloc (.cells #[.slice none 0 0, .int .i64 0] 57)) w1.heap.size [] 0) := Lib.hid ⟨HB1.out.size, _, heap_alloc_new _ _, World.ownsRow_nil _ _ _ _⟩
  go_wp2_with fail
  have HX2 : Hid ((w1.alloc (.cells #[.slice none 0 0, .int .i64 0] 57)).heap[w.heap.size]? = some (.cells #[.int .i64 a0_0, .int .i64 a0_1, .int .i64 a0_2, .int .i64 a0_3, .int .i64 a0_4, .slice A0_5 l0_5.length c0_5, .slice A0_6 l0_6.length c0_6] 31 (0, 0))) := Lib.hid (blk_grown HX1.out (World.grownBy_alloc _ _ none) (by simp))
  have HB2 : Hid (Below w.heap.size w (w1.alloc (.cells #[.slice none 0 0, .int .i64 0] 57))) := Lib.hid (below_alloc HB1.out _)
  obtain ⟨g, hg⟩ : ∃ g, g = w1.heap.size := ⟨_, rfl⟩
  rw [← hg] at HI1 ⊢
  have hgb : w.heap.size ≠ g := by omega
  clear hg hs1
  generalize w1.alloc (.cells #[.slice none 0 0, .int .i64 0] 57) = W2 at HI1 HX2 HB2 ⊢
  clear HX1 HB1
  refine (Writer_Open _ g _ _ W2 HI1.out HB2.out.size (by omega) (by omega) (by simp)).mono ?_
  rintro e w3 ⟨rfl, hI3, hK3⟩
  have HI3 := Lib.hid hI3
  have HX3 := Lib.hid (hK3.blk HX2.out hgb (by decide))
  have HB3 := Lib.hid (HB2.out.trans hK3.1)
  clear hI3 hK3 HX2 HB2 HI1
  have x0 : w3.cell? ⟨w.heap.size, 0, none⟩ = some (.int .i64 a0_0) := (blk_cell HX3.out 0).trans rfl
  have x1 : w3.cell? ⟨w.heap.size, 1, none⟩ = some (.int .i64 a0_1) := (blk_cell HX3.out 1).trans rfl
  have x2 : w3.cell? ⟨w.heap.size, 2, none⟩ = some (.int .i64 a0_2) := (blk_cell HX3.out 2).trans rfl
  have x3 : w3.cell? ⟨w.heap.size, 3, none⟩ = some (.int .i64 a0_3) := (blk_cell HX3.out 3).trans rfl
  have x4 : w3.cell? ⟨w.heap.size, 4, none⟩ = some (.int .i64 a0_4) := (blk_cell HX3.out 4).trans rfl
  go_wp2_with fail
  refine wp_loop_rounds 6 ?_
  rw [rounds_succ]
  go_wp2_with fail
  clear x0 x1 x2 x3 x4
  refine (Writer_Int _ g _ _ a0_0 w3 HI3.out HB3.out.size i00 i01 (by have := hbytes; simp only [List.length_append, List.length_cons, List.length_nil] at this ⊢; omega) (fun _ => Lib.TabBelow.on (Laid.tabB HL.out) HB3.out)).mono ?_
  rintro e w4 ⟨rfl, hI4, hK4⟩
  have HI4 := Lib.hid hI4
  have HX4 := Lib.hid (hK4.blk HX3.out hgb (by decide))
  have HB4 := Lib.hid (HB3.out.trans hK4.1)
  clear hI4 hK4 HX3 HB3 HI3
  go_wp2_with fail
  rw [rounds_succ]
  go_wp2_with fail
  refine (Writer_Int _ g _ _ a0_1 w4 HI4.out HB4.out.size i10 i11 (by have := hbytes; simp only [List.length_append, List.length_cons, List.length_nil] at this ⊢; omega) (fun _ => Lib.TabBelow.on (Laid.tabB HL.out) HB4.out)).mono ?_
  rintro e w5 ⟨rfl, hI5, hK5⟩
  have HI5 := Lib.hid hI5
  have HX5 := Lib.hid (hK5.blk HX4.out hgb (by decide))
  have HB5 := Lib.hid (HB4.out.trans hK5.1)
  clear hI5 hK5 HX4 HB4 HI4
  go_wp2_with fail
  rw [rounds_succ]
  go_wp2_with fail
  refine (Writer_Int _ g _ _ a0_2 w5 HI5.out HB5.out.size i20 i21 (by have := hbytes; simp only [List.length_append, List.length_cons, List.length_nil] at this ⊢; omega) (fun _ => Lib.TabBelow.on (Laid.tabB HL.out) HB5.out)).mono ?_
  rintro e w6 ⟨rfl, hI6, hK6⟩
  have HI6 := Lib.hid hI6
  have HX6 := Lib.hid (hK6.blk HX5.out hgb (by decide))
  have HB6 := Lib.hid (HB5.out.trans hK6.1)
  clear hI6 hK6 HX5 HB5 HI5
  go_wp2_with fail
  rw [rounds_succ]
  go_wp2_with fail
  refine (Writer_Int _ g _ _ a0_3 w6 HI6.out HB6.out.size i30 i31 (by have := hbytes; simp only [List.length_append, List.length_cons, List.length_nil] at this ⊢; omega) (fun _ => Lib.TabBelow.on (Laid.tabB HL.out) HB6.out)).mono ?_
  rintro e w7 ⟨rfl, hI7, hK7⟩
  have HI7 := Lib.hid hI7
  have HX7 := Lib.hid (hK7.blk HX6.out hgb (by decide))
  have HB7 := Lib.hid (HB6.out.trans hK7.1)
  clear hI7 hK7 HX6 HB6 HI6
  go_wp2_with fail
  rw [rounds_succ]
  go_wp2_with fail
  refine (Writer_Int _ g _ _ a0_4 w7 HI7.out HB7.out.size i40 i41 (by have := hbytes; simp only [List.length_append, List.length_cons, List.length_nil] at this ⊢; omega) (fun _ => Lib.TabBelow.on (Laid.tabB HL.out) HB7.out)).mono ?_
  rintro e w8 ⟨rfl, hI8, hK8⟩
  have HI8 := Lib.hid hI8
  have HX8 := Lib.hid (hK8.blk HX7.out hgb (by decide))
  have HB8 := Lib.hid (HB7.out.trans hK8.1)
  clear hI8 hK8 HX7 HB7 HI7
  go_wp2_with fail
  rw [rounds_succ]
  have y5 : w8.cell? ⟨w.heap.size, 5, none⟩ = some (.slice A0_5 l0_5.length c0_5) := (blk_cell HX8.out 5).trans rfl
  go_wp2_with fail
  clear ix0 ix1 ix2 ix3 ix4 y5
  refine (putLines_calls w g _ _ A0_5 c0_5 l0_5 w8 HB8.out HI8.out (by omega) (by omega) HR5.out hc0_5 hl5 (by have := hbytes; simp only [List.length_append, List.length_cons, List.length_nil] at this ⊢; omega) (fun _ => Lib.TabBelow.on (Laid.tabB HL.out) HB8.out)).mono ?_
  rintro e w9 ⟨rfl, hI9, hK9⟩
  have HI9 := Lib.hid hI9
  have HX9 := Lib.hid (hK9.blk HX8.out hgb (by decide))
  have HB9 := Lib.hid (HB8.out.trans hK9.1)
  clear hI9 hK9 HX8 HB8 HI8
  go_wp2_with fail
  refine (Writer_Open _ g _ _ w9 HI9.out HB9.out.size (by omega) (by omega) (by have := hbytes; simp only [List.length_append, List.length_cons, List.length_nil] at this ⊢; omega)).mono ?_
  rintro e w10 ⟨rfl, hI10, hK10⟩
  have HI10 := Lib.hid hI10
  have HX10 := Lib.hid (hK10.blk HX9.out hgb (by decide))
  have HB10 := Lib.hid (HB9.out.trans hK10.1)
  clear hI10 hK10 HX9 HB9 HI9
  have y6 : w10.cell? ⟨w.heap.size, 6, none⟩ = some (.slice A0_6 l0_6.length c0_6) := (blk_cell HX10.out 6).trans rfl
  obtain ⟨lp, hlp⟩ : ∃ lp, [] ++ [(108 : Int)] ++ (105 :: bl (Lib.itoa a0_0) ++ [59]) ++ (105 :: bl (Lib.itoa a0_1) ++ [59]) ++ (105 :: bl (Lib.itoa a0_2) ++ [59]) ++ (105 :: bl (Lib.itoa a0_3) ++ [59]) ++ (105 :: bl (Lib.itoa a0_4) ++ [59]) ++ (108 :: txts l0_5 ++ [101]) ++ [108] = lp := ⟨_, rfl⟩
  have hlpl : lp.length + (edsT l0_6).length = (encT a0_0 a0_1 a0_2 a0_3 a0_4 l0_5 l0_6).length := by rw [← hlp]; have := hbytes; simp only [List.length_append, List.length_cons, List.length_nil] at this ⊢; omega
  have hlpe : lp ++ edsT l0_6 = encT a0_0 a0_1 a0_2 a0_3 a0_4 l0_5 l0_6 := by rw [← hlp]; simp [encT, intT]
  rw [hlp] at HI10
  have HLE := Lib.hid hlpe
  clear hlp hlpe
  go_wp2_with fail
  go_loopw [42] (fun v wr => ∃ q : Nat, q ≤ l0_6.length ∧ v = .int .i64 q ∧ Hid (IsW w.heap.size wr g (lp ++ edsT (l0_6.take q)) 2) ∧ Hid (Below w.heap.size w wr)) (fun v _ => l0_6.length - (intOf v).toNat)
  case atStart => exact ⟨0, by omega, rfl, by simpa [edsT] using HI10, HB10⟩
  case round =>
   obtain ⟨q, hq, rfl, HIq, HBq⟩ := hrel
   clear HI10 HB10 HX10 y6
   by_cases hlt : q < l0_6.length
   ·obtain ⟨ad, Ax, cx, rfl, hx0, hx1, hx2, hcx, hgx⟩ := at_T52 (C_of HR6.out HBq.out) q (by omega) (by omega)
    have hsn := Lib.hid (edsT_snoc l0_6 q hlt)
    have hle := edsT_le l0_6 q hlt
    have hrx := at_T52 HR6.out q (by omega) (by omega)
    obtain ⟨x, hx⟩ : ∃ x, rd_T52 l0_6 q = x := ⟨_, rfl⟩
    have hmem : x ∈ l0_6 := by rw [← hx]; simp [rd_T52, List.getD, hlt]
    obtain ⟨⟨p0, p1⟩, ⟨p2, p3⟩, p4⟩ := HE.out x hmem
    rw [hx] at hx0 hx1 hx2 hcx hgx hsn hle hrx
    have hAx : Kd.C Kd.string w Ax x.f2.length x.f2 := by
     obtain ⟨ad', A', c', e', _, _, h2', _, hg'⟩ := hrx
     obtain rfl := Option.some.inj e'
     have h3 := (HBq.out.cell (World.block_lt_of_cell? w _ h2')).trans h2'
     have h4 := hx2.symm.trans h3
     injection h4 with h4
     injection h4 with h4 _ _
     rw [h4]; exact hg'
    have HGX := Lib.hid hAx
    have HHX := Lib.hid hx
    clear hx hgx hrx hmem hAx
    rw [Int.toNat_natCast] at hx0 hx1 hx2
    have hu52 := Tryd.underlying52
    go_wp2_with fail
    have HI11 : Hid (IsW w.heap.size (wr.alloc (Obj.cells #[Value.int IntKind.i64 x.f0, Value.int IntKind.i64 x.f1, Value.slice Ax x.f2.length cx] 52)) g (lp ++ edsT (l0_6.take q)) 2) := Lib.hid (HIq.out.alloc _)
    have HB11 : Hid (Below w.heap.size w (wr.alloc (Obj.cells #[Value.int IntKind.i64 x.f0, Value.int IntKind.i64 x.f1, Value.slice Ax x.f2.length cx] 52))) := Lib.hid (below_alloc HBq.out _)
    have HX11 : Hid ((wr.alloc (Obj.cells #[Value.int IntKind.i64 x.f0, Value.int IntKind.i64 x.f1, Value.slice Ax x.f2.length cx] 52)).heap[wr.heap.size]? = some (.cells #[Value.int IntKind.i64 x.f0, Value.int IntKind.i64 x.f1, Value.slice Ax x.f2.length cx] 52 (0, 0))) := Lib.hid (heap_alloc_new _ _)
    have hgb2 : wr.heap.size ≠ g := by have := HIq.out.lt; omega
    generalize hbx : wr.heap.size = bx at HX11 hgb2 ⊢
    have HBX := Lib.hid hbx
    clear hbx
    generalize wr.alloc (Obj.cells #[Value.int IntKind.i64 x.f0, Value.int IntKind.i64 x.f1, Value.slice Ax x.f2.length cx] 52) = w11 at HI11 HB11 HX11 ⊢
    clear hx0 hx1 hx2 HIq
    refine (Writer_Open _ g _ _ w11 HI11.out HB11.out.size (by omega) (by omega) (by have h1 := hlpl; have h2 := hle; have h3 := hT; simp only [editT, intT, List.length_append, List.length_cons, List.length_nil] at h1 h2 ⊢; omega)).mono ?_
    rintro e w12 ⟨rfl, hI12, hK12⟩
    have HI12 := Lib.hid hI12
    have HX12 := Lib.hid (hK12.blk HX11.out hgb2 (by decide))
    have HB12 := Lib.hid (HB11.out.trans hK12.1)
    clear hI12 hK12 HX11 HB11 HI11
    have z0 : w12.cell? ⟨bx, 0, none⟩ = some (.int .i64 x.f0) := (blk_cell HX12.out 0).trans rfl
    go_wp2_with fail
    clear z0
    refine (Writer_Int _ g _ _ x.f0 w12 HI12.out HB12.out.size p0 p1 (by have h1 := hlpl; have h2 := hle; have h3 := hT; simp only [editT, intT, List.length_append, List.length_cons, List.length_nil] at h1 h2 ⊢; omega) (fun _ => Lib.TabBelow.on (Laid.tabB HL.out) HB12.out)).mono ?_
    rintro e w13 ⟨rfl, hI13, hK13⟩
    have HI13 := Lib.hid hI13
    have HX13 := Lib.hid (hK13.blk HX12.out hgb2 (by decide))
    have HB13 := Lib.hid (HB12.out.trans hK13.1)
    clear hI13 hK13 HX12 HB12 HI12
    have z1 : w13.cell? ⟨bx, 1, none⟩ = some (.int .i64 x.f1) := (blk_cell HX13.out 1).trans rfl
    go_wp2_with fail
    clear z1
    refine (Writer_Int _ g _ _ x.f1 w13 HI13.out HB13.out.size p2 p3 (by have h1 := hlpl; have h2 := hle; have h3 := hT; simp only [editT, intT, List.length_append, List.length_cons, List.length_nil] at h1 h2 ⊢; omega) (fun _ => Lib.TabBelow.on (Laid.tabB HL.out) HB13.out)).mono ?_
    rintro e w14 ⟨rfl, hI14, hK14⟩
    have HI14 := Lib.hid hI14
    have HX14 := Lib.hid (hK14.blk HX13.out hgb2 (by decide))
    have HB14 := Lib.hid (HB13.out.trans hK14.1)
    clear hI14 hK14 HX13 HB13 HI13
    have z2 : w14.cell? ⟨bx, 2, none⟩ = some (.slice Ax x.f2.length cx) := (blk_cell HX14.out 2).trans rfl
    go_wp2_with fail
    clear z2
    refine (putLines_calls w g _ _ Ax cx x.f2 w14 HB14.out HI14.out (by omega) (by omega) HGX.out hcx p4 (by have h1 := hlpl; have h2 := hle; have h3 := hT; simp only [editT, intT, List.length_append, List.length_cons, List.length_nil] at h1 h2 ⊢; omega) (fun _ => Lib.TabBelow.on (Laid.tabB HL.out) HB14.out)).mono ?_
    rintro e w15 ⟨rfl, hI15, hK15⟩
    have HI15 := Lib.hid hI15
    have HX15 := Lib.hid (hK15.blk HX14.out hgb2 (by decide))
    have HB15 := Lib.hid (HB14.out.trans hK15.1)
    clear hI15 hK15 HX14 HB14 HI14
    go_wp2_with fail
    refine (Writer_Close _ g _ _ w15 HI15.out HB15.out.size (by omega) (by omega) (by have h1 := hlpl; have h2 := hle; have h3 := hT; simp only [editT, intT, List.length_append, List.length_cons, List.length_nil] at h1 h2 ⊢; omega)).mono ?_
    rintro e w16 ⟨rfl, hI16, hK16⟩
    have HI16 := Lib.hid hI16
    have HX16 := Lib.hid (hK16.blk HX15.out hgb2 (by decide))
    have HB16 := Lib.hid (HB15.out.trans hK16.1)
    clear hI16 hK16 HX15 HB15 HI15
    go_wp2_with fail
    go_roundw
    case rel => exact ⟨q + 1, by omega, by go_num, Lib.hid (by have h := HI16.out; rw [hsn.out]; simp only [editT, intT]; simpa using h), HB16⟩
    case measure => simp [intOf]; omega
   ·obtain rfl : q = l0_6.length := by omega
    rw [List.take_length] at HIq
    go_wp2_with fail
    refine (Writer_Data _ g _ 2 wr (by exact HIq.out) (by omega) (by have h1 := hlpl; simp only [List.length_append] at h1 ⊢; omega)).mono ?_
    rintro e w20 ⟨rfl, hb20⟩
    have HB20 := Lib.hid (HBq.out.trans (hb20.mono HBq.out.size))
    clear hb20
    obtain ⟨str, hstr⟩ : ∃ str, strOfNums (lp ++ edsT l0_6) ++ ⟨(Lib.repeatL [101] 2).toArray⟩ = str := ⟨_, rfl⟩
    have hbo : bytesOf str = encB a0_0 a0_1 a0_2 a0_3 a0_4 l0_5 l0_6 := by
     rw [← hstr, HLE.out]
     exact bytesOf_enc _ (okBytes_left (frame_Sum.ok HS.out))
    have hss : str.size = (encB a0_0 a0_1 a0_2 a0_3 a0_4 l0_5 l0_6).length := by rw [← hbo, bytesOf_length]
    have hsl : str.size ≤ 140737488351232 := by rw [hss]; simp only [encB, List.length_append, List.length_cons, List.length_nil]; omega
    rw [hstr]
    have HBO := Lib.hid hbo
    have HSS := Lib.hid hss
    clear hstr hbo hss
    have kc := print_bytes (P := Tryd.prog) 9 22 5 Tryd.underlying9 Tryd.underlying22 Tryd.underlying5 str w20
    have hcap : str.size ≤ grownCap w20 str.size 0 5 := grownCap_ge _ _ _ _
    have hcap2 : grownCap w20 str.size 0 5 ≤ maxLen := grownCap_le_maxLen _ _ _ _ (by unfold maxLen; omega)
    have HY : Hid ((Lib.bytesWorld w20 5 str).heap[w20.heap.size]? = some (.cells (Lib.bytesCells w20 5 str) 5 ((Lib.bytesCells w20 5 str).size, (Lib.bytesCells w20 5 str).size + 1))) := Lib.hid (Lib.bytesWorld_at_new _ _ _)
    have HYS : Hid ((Lib.bytesCells w20 5 str).size = grownCap w20 str.size 0 5) := Lib.hid (bytesCells_size _ _ _ hcap)
    have HYC : Hid (Kd.C (Kd.int .u8) (Lib.bytesWorld w20 5 str) (some ⟨w20.heap.size, 0, none⟩) (encB a0_0 a0_1 a0_2 a0_3 a0_4 l0_5 l0_6).length (encB a0_0 a0_1 a0_2 a0_3 a0_4 l0_5 l0_6)) := Lib.hid (by rw [← HSS.out, ← HBO.out]; exact Kd.C_of_reads (d := (0 : Int)) (h1 := fun _ => rfl) (bytes_reads _ _ _ (by omega)))
    have HB21 : Hid (Below w.heap.size w (Lib.bytesWorld w20 5 str)) := Lib.hid (bytes_below HB20.out HB20.out.size _ _)
    go_wp2_with fail
    generalize Lib.bytesWorld w20 5 str = W21 at HY HYC HB21 ⊢
    generalize Lib.bytesCells w20 5 str = cb at HY HYS
    generalize grownCap w20 str.size 0 5 = cap at hcap hcap2 HYS ⊢
    have hbo : w.heap.size ≤ w20.heap.size := HB20.out.size
    generalize w20.heap.size = bo at HY HYC hbo ⊢
    clear kc HB20
    refine (Sum_n _ _ str.size cap () sm W21 HSS.out.symm HYC.out hcap HS.out).mono ?_
    rintro e w22 ⟨rfl, hb22⟩
    have HB22 := Lib.hid (HB21.out.trans (hb22.mono HB21.out.size))
    have HY22 := Lib.hid ((hb22.block bo (blk_lt HY.out)).trans HY.out)
    have HYC22 := Lib.hid (Kd.C_below HYC.out hb22)
    clear hb22 HY HYC HB21
    go_wp2_with fail
    refine (digits_calls sm hsr.1 hsr.2 w22).mono ?_
    rintro e w23 ⟨rfl, hb23⟩
    have HB23 := Lib.hid (HB22.out.trans (hb23.mono HB22.out.size))
    have HY23 := Lib.hid ((hb23.block bo (blk_lt HY22.out)).trans HY22.out)
    have HYC23 := Lib.hid (cells_of_C (Kd.C_below HYC22.out hb23))
    clear hb23 HB22 HY22 HYC22
    have HBW : Hid (Below w.heap.size w (w23.alloc (.cells #[.int .u8 (dgt (sm / 4096)), .int .u8 (dgt (sm / 256)), .int .u8 (dgt (sm / 16)), .int .u8 (dgt sm)] 63))) := Lib.hid (below_alloc HB23.out _)
    have HYW : Hid ((w23.alloc (.cells #[.int .u8 (dgt (sm / 4096)), .int .u8 (dgt (sm / 256)), .int .u8 (dgt (sm / 16)), .int .u8 (dgt sm)] 63)).heap[bo]? = some (.cells cb 5 (cb.size, cb.size + 1))) := Lib.hid (blk_grown HY23.out (World.grownBy_alloc _ _ none) (by simp))
    have HCW : Hid (∀ j u, (nums .u8 (encB a0_0 a0_1 a0_2 a0_3 a0_4 l0_5 l0_6))[j]? = some u → (w23.alloc (.cells #[.int .u8 (dgt (sm / 4096)), .int .u8 (dgt (sm / 256)), .int .u8 (dgt (sm / 16)), .int .u8 (dgt sm)] 63)).cell? ⟨bo, 0 + j, none⟩ = some u) := Lib.hid (fun j u hj => (World.cell?_of_block (a := ⟨bo, 0 + j, none⟩) ((World.grownBy_alloc w23 _ none).block bo (blk_lt HY23.out) (by simp))).trans (HYC23.out j u hj))
    have HDW : Hid ((w23.alloc (.cells #[.int .u8 (dgt (sm / 4096)), .int .u8 (dgt (sm / 256)), .int .u8 (dgt (sm / 16)), .int .u8 (dgt sm)] 63)).heap[w23.heap.size]? = some (.cells (nums .u8 (digs sm)).toArray 63 (0, 0))) := Lib.hid (heap_alloc_new _ _)
    obtain ⟨i0, hi, hz0, hz1, hz2⟩ := info_parts info5
    go_wp2_with (at_builtin; refine wpList_append_arg _ rfl _ _ 22 rfl 5 i0 (.int .u8 0) 1 1 Tryd.underlying22 hi hz0 hz1 hz2 rfl (by decide) bo 0 str.size cap (nums .u8 (encB a0_0 a0_1 a0_2 a0_3 a0_4 l0_5 l0_6)) rfl (by rw [nums_length, HSS.out, Nat.mul_one]) HCW.out ⟨w23.heap.size, 0, none⟩ 4 4 (nums .u8 (digs sm)) rfl (by rw [nums_length]; rfl) (World.news_of_block HDW.out) (nums_one _) ?q5 (by unfold maxLen; omega) (by omega) ?q8 ?q9)
    case q5 =>
     intro hr j hj
     rw [nums_length] at hj
     have hj4 : j < 4 := hj
     have hcs := HYS.out
     rw [cell_of_row _ _ _ _ _ _ HYW.out]
     refine ⟨by simp; omega, ?_⟩
     simp only [World.frozen?, HYW.out]
     simp; omega
    case q8 =>
     intro hr
     go_wp2
     go_ret2
     have hlen : (encB a0_0 a0_1 a0_2 a0_3 a0_4 l0_5 l0_6 ++ digs sm).length = str.size + 4 := by rw [List.length_append, HSS.out]; rfl
     rw [← HR1.out]
     refine ⟨some ⟨bo, 0, none⟩, cap, by rw [hlen]; rfl, by rw [hlen]; exact hr, ?_, below_setCells HBW.out hbo⟩
     refine C_of_cells (by rw [hlen]; omega) (fun j hj => ?_)
     rw [hlen] at hj
     have hel := HSS.out
     by_cases hjl : j < str.size
     ·rw [World.cell?_setCells_out bo _ _ _ _ (fun _ _ => .inl hjl)]
      have h := HCW.out j (.int .u8 ((encB a0_0 a0_1 a0_2 a0_3 a0_4 l0_5 l0_6).getD j 0)) (by rw [hel] at hjl; simp [nums, List.getD, hjl])
      rw [Nat.zero_add] at h
      rw [h]
      rw [hel] at hjl
      simp [List.getD, List.getElem?_append, hjl]
     ·have h := World.cell?_setCells_in bo (nums .u8 (digs sm)) str.size (w23.alloc (.cells #[.int .u8 (dgt (sm / 4096)), .int .u8 (dgt (sm / 256)), .int .u8 (dgt (sm / 16)), .int .u8 (dgt sm)] 63)) (fun i hi => by
       rw [nums_length] at hi
       have hi4 : i < 4 := hi
       have hcs := HYS.out
       rw [cell_of_row _ _ _ _ _ _ HYW.out]
       simp; omega) (j - str.size) (by rw [nums_length]; show j - str.size < 4; omega)
      rw [show str.size + (j - str.size) = j from by omega] at h
      rw [h]
      have hnl : ¬ j < (encB a0_0 a0_1 a0_2 a0_3 a0_4 l0_5 l0_6).length := by omega
      have hj4 : j - str.size < (digs sm).length := by show j - str.size < 4; omega
      rw [List.getD_eq_getElem?_getD, List.getElem?_append_right (by omega), ← hel, List.getElem?_eq_getElem hj4]
      simp [nums]
    case q9 =>
     intro hr v' w' hown hgrow
     obtain ⟨A9, k9, rfl, hrd⟩ := own_reads (xs := encB a0_0 a0_1 a0_2 a0_3 a0_4 l0_5 l0_6 ++ digs sm) (by rw [nums_append]; exact hown)
     have hkc := own_cap hown
     have HRD := Lib.hid hrd
     have HGR := Lib.hid hgrow
     clear hrd hgrow hown
     go_wp2
     go_ret2
     have hlen : (encB a0_0 a0_1 a0_2 a0_3 a0_4 l0_5 l0_6 ++ digs sm).length = str.size + 4 := by rw [List.length_append, HSS.out]; rfl
     rw [← HR1.out]
     refine ⟨A9, k9, by rw [hlen]; rfl, by rw [hlen]; exact hkc, by rw [hlen]; exact Kd.C_of_reads (d := (0 : Int)) (h1 := fun _ => rfl) HRD.out, HBW.out.grown HGR.out HBW.out.size (by simp)⟩
 ·rw [if_neg hec] at h
  have hn : (ec != 0) = true := bne_iff_ne.mpr hec
  simp only [Option.some.injEq, Prod.mk.injEq] at h
  obtain ⟨rfl, rfl⟩ := h
  have hu31 := Tryd.underlying31
  go_enter Tryd.func14, Tryd.ntmps14
  go_wp2_with fail
  refine (frame_Check.calls k a0_0 a0_1 a0_2 a0_3 a0_4 _ _ l0_5 _ _ l0_6 ec _ (C_of HR5.out (below_alloc (Below.refl _ _) _)) hc0_5 (C_of HR6.out (below_alloc (Below.refl _ _) _)) hc0_6 HCK.out).mono ?_
  rintro e w1 ⟨rfl, hb1⟩
  have HB1 := Lib.hid hb1
  clear hb1
  go_wp2_with fail
  go_ret2
  exact ⟨none, 0, rfl, Nat.le_refl _, Kd.C_nil _ _, (below_alloc (Below.refl _ _) _).trans (HB1.out.mono (by simp))⟩
end Go.Proofs.YtfpopmojlmpopaaDoor.H

end
