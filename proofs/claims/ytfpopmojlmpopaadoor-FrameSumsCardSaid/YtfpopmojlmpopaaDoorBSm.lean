/-
  FrameSums, proved for every input: for byte strings of at most 300 bytes (the statement's bound) Sum is the reference's CRC-16, and the exclusive-or of the sums of three byte strings, cut to one length, is the sum of their exclusive-or; the examples of the chapter stand. Conditions: the listed package-level variables of strconv and math/bits hold what the program's text lays them (the card ties them); arguments may share memory.
-/
import Derived.Test.YtfpopmojlmpopaaDoorCards
import Derived.Test.YtfpopmojlmpopaaDoorTie
import Derived.SevenTiedAt
import Derived.Test.YtfpopmojlmpopaaDoorBSm1
import Derived.Test.YtfpopmojlmpopaaDoorBSm7
section
namespace Go.Proofs.YtfpopmojlmpopaaDoor.frameSums
open Go.ChangeShapes Go.WideShapes Go.ChangeAt Go.RowKit Go.Proofs.YtfpopmojlmpopaaDoorW.PrintWords Go.Proofs.YtfpopmojlmpopaaDoorW.PrintLast Go.Proofs.YtfpopmojlmpopaaDoorW.PrintMore Go.Proofs.YtfpopmojlmpopaaDoor.G Go.Proofs.YtfpopmojlmpopaaDoor.H Go.Proofs.YtfpopmojlmpopaaDoor.L
open Go.ChangeMaps (open_string shut_string)
set_option linter.unusedVariables false
theorem law (A0 : Option Addr) (c0 : Nat) (l0 : List Int) (A1 : Option Addr) (c1 : Nat) (l1 : List Int) (A2 : Option Addr) (c2 : Nat) (l2 : List Int) (W : World) (hL : Laid W) (hr0 : Kd.C (Kd.int .u8) W A0 l0.length l0) (hc0 : l0.length ≤ c0) (hr1 : Kd.C (Kd.int .u8) W A1 l1.length l1) (hc1 : l1.length ≤ c1) (hr2 : Kd.C (Kd.int .u8) W A2 l2.length l2) (hc2 : l2.length ≤ c2) (hb0 : ∀ x ∈ l0, 0 ≤ x ∧ x ≤ 255) (hb1 : ∀ x ∈ l1, 0 ≤ x ∧ x ≤ 255) (hb2 : ∀ x ∈ l2, 0 ≤ x ∧ x ≤ 255) :
  Calls Tryd.prog 3 #[.slice A0 l0.length c0, .slice A1 l1.length c1, .slice A2 l2.length c2] W fun e w' => e = .returned (.bool true) ∧ Below W.heap.size W w' :=
 FrameSums_calls A0 c0 l0 A1 c1 l1 A2 c2 l2 W hL hr0 hc0 hr1 hc1 hr2 hc2 hb0 hb1 hb2
set_option maxRecDepth 100000 in
theorem lifted (os : Os) (started : os.Started) (H : Type) (enc : TypeId × Value → H) :
  ReturnsInHanded {} Tryd.checked os 3 .any (fun w args => (Rows.frameSumsSpec.pre enc Tryd.prog Tryd.f3 [] false w args ∧ laidMetH Tryd.prog Rows.frameSumsRow.laid w) ∧ sizedMet enc Tryd.prog Tryd.f3 (OpenSpec.ofChange Rows.frameSumsSpec) false w args)
   (Rows.frameSumsSpec.post enc Tryd.prog Tryd.f3 false true false false) := by
 refine returnsInHanded_of_change_and (C := Tryd.checked) (X := fun w _ => laidMetH Tryd.prog Rows.frameSumsRow.laid w) (fun _ _ _ hh h => h.of_heap hh) own started (by kernel_rfl) Tryd.func3
  (ChangeSpec.witness_shaped (enc := enc) (C := Tryd.checked) (os := os) (X := fun w _ => laidMetH Tryd.prog Rows.frameSumsRow.laid w) false (World.laidAll Tryd.prog os Rows.frameSumsRow.laid) #[.slice none 0 0, .slice none 0 0, .slice none 0 0] 8 (World.laidAll_os _ _ _)
   (World.shaped_of_ZipB (by kernel_rfl) (by kernel_rfl)) (by kernel_rfl) (by kernel_rfl) (by kernel_rfl)
   (by rw [MakeChecks.laidMetH_plain _ _ _ (by kernel_rfl)]; exact laidMet_laidAll _ (by kernel_rfl) (by kernel_rfl))) ?_
 intro W base args ds gs before hval0 hW _ hsz0 hld _
 have hsz : (DataW.weightsEach Tryd.prog (Tryd.f3.params.toList ++ Rows.frameSumsSpec.plain.varTypes Tryd.prog) (ds ++ gs)).all (· ≤ reachBytes) = true := hsz0
 have hval : ∀ (j : Nat) t v, Tryd.f3.params[j]? = some t → args[j]? = some v → Value.okWide Tryd.prog W .any base t v := hval0
 have hW' := hW
 have hL : Laid W := laid_of hld
 obtain ⟨p, q, hA0, hV, rfl, hfz, hnd⟩ := hW
 have hA : DataW.TrodAll enc Tryd.prog W 0 (fun _ => true) true Tryd.f3.params.toList args.toList ds p := hA0
 rw [Tryd.params3] at hA hval hsz
 obtain ⟨v0, vs0, d0, ds0, p0, q0, hargs, rfl, rfl, h0, r0⟩ := trodAll_cons hA
 obtain ⟨v1, vs1, d1, ds1, p1, q1, rfl, rfl, rfl, h1, r1⟩ := trodAll_cons r0
 obtain ⟨v2, vs2, d2, ds2, p2, q2, rfl, rfl, rfl, h2, r2⟩ := trodAll_cons r1
 obtain ⟨rfl, rfl, rfl⟩ := trodAll_nil r2
 obtain rfl : args = #[v0, v1, v2] := by cases args; simp_all
 obtain ⟨rfl, rfl⟩ := trodVars_none hV
 have k0 := h0
 have lt0 : ∀ x ∈ p0, x.block < W.heap.size := by obtain ⟨m, hm⟩ := k0; exact DataW.trod_lt m _ _ _ hm
 obtain ⟨a0, len0, cap0, rfl⟩ := okWide_slice Tryd.underlying22 (hval 0 22 v0 rfl rfl)
 obtain ⟨fu0, hf0⟩ := h0
 obtain ⟨A0, c0, l0, hq0, hc0, hr0, e0⟩ := row_bytes (show DataW.trod enc Tryd.prog W 0 (fun _ => true) true fu0 22 [.slice a0 len0 cap0] = some _ from hf0)
 simp only [List.cons.injEq, Value.slice.injEq, and_true] at hq0
 obtain ⟨rfl, rfl, rfl⟩ := hq0
 have k1 := h1
 have lt1 : ∀ x ∈ p1, x.block < W.heap.size := by obtain ⟨m, hm⟩ := k1; exact DataW.trod_lt m _ _ _ hm
 obtain ⟨a1, len1, cap1, rfl⟩ := okWide_slice Tryd.underlying22 (hval 1 22 v1 rfl rfl)
 obtain ⟨fu1, hf1⟩ := h1
 obtain ⟨A1, c1, l1, hq1, hc1, hr1, e1⟩ := row_bytes (show DataW.trod enc Tryd.prog W 0 (fun _ => true) true fu1 22 [.slice a1 len1 cap1] = some _ from hf1)
 simp only [List.cons.injEq, Value.slice.injEq, and_true] at hq1
 obtain ⟨rfl, rfl, rfl⟩ := hq1
 have k2 := h2
 have lt2 : ∀ x ∈ p2, x.block < W.heap.size := by obtain ⟨m, hm⟩ := k2; exact DataW.trod_lt m _ _ _ hm
 obtain ⟨a2, len2, cap2, rfl⟩ := okWide_slice Tryd.underlying22 (hval 2 22 v2 rfl rfl)
 obtain ⟨fu2, hf2⟩ := h2
 obtain ⟨A2, c2, l2, hq2, hc2, hr2, e2⟩ := row_bytes (show DataW.trod enc Tryd.prog W 0 (fun _ => true) true fu2 22 [.slice a2 len2 cap2] = some _ from hf2)
 simp only [List.cons.injEq, Value.slice.injEq, and_true] at hq2
 obtain ⟨rfl, rfl, rfl⟩ := hq2
 clear hA0 hval0 hsz0
 refine (law a0 cap0 l0 a1 cap1 l1 a2 cap2 l2 W hL hr0 hc0 hr1 hc1 hr2 hc2 e0 e1 e2).mono fun e W' ⟨he, bel⟩ => ?_
 subst he
 exact ⟨_, rfl, _, _, _, [], _, [], hW', trodAll_mk1 (shut_bool Tryd.underlying4 _), (trodAll_cons_mk (Below.trod laidOut (by kernel_rfl) (of_decide_eq_true (by kernel_rfl)) k0 bel lt0) (trodAll_cons_mk (Below.trod laidOut (by kernel_rfl) (of_decide_eq_true (by kernel_rfl)) k1 bel lt1) (trodAll_cons_mk (Below.trod laidOut (by kernel_rfl) (of_decide_eq_true (by kernel_rfl)) k2 bel lt2) trodAll_mk0))), rfl, bel.frame _, fun h => by cases h⟩
theorem holds : Rows.FrameSumsSaid :=
 OpenClaim.holds_of_wide 3 Tryd.f3 rfl rfl rfl rfl rfl rfl rfl ⟨rfl, rfl, rfl, rfl, rfl⟩ rfl rfl rfl rfl rfl (by kernel_rfl) Tryd.func3 (by kernel_rfl)
  (of_decide_eq_true (by kernel_rfl)) (by unfold Func.isWrapper; first | (rw [if_pos (by decide +kernel)]; kernel_rfl) | (rw [if_neg (by decide +kernel)]; exact ⟨rfl, rfl⟩))
  (fun os started H enc _ => lifted os started H enc)
theorem card : Rows.FrameSumsCardSaid :=
 Claim7.holds_tied_plain_at .later [] [.data, .data, .data, .sentinel, .sentinel] true (true, "6b462eb325728ae18f47a0354160277bd724a72b7f62f8e01c5e16a78c976214") true holds (fun _ h => by cases h) (by kernel_rfl) (fun _ h => by cases h) frameSums_row_tie rfl ⟨rfl, rfl⟩ (by kernel_rfl) rfl
  (fun f fn hf hfn => by
   obtain rfl : f = 3 := Option.some.inj ((show Tryd.prog.funcNamed "salchow/salchowlaw49.FrameSums" = some 3 by kernel_rfl).symm.trans hf) |>.symm
   obtain rfl : fn = Tryd.f3 := (Option.some.inj (Tryd.func3.symm.trans hfn)).symm
   exact ⟨by kernel_rfl, fun j t ht => by
    rw [Tryd.params3] at ht
    have hm : t ∈ [22, 22, 22] := by simpa using Array.mem_of_getElem? ht
    have hall : ([22, 22, 22].all fun u => !Tryd.prog.wantsStandIn u) = true := by kernel_rfl
    exact (show Tryd.prog.wantsStandIn t = false by simpa using List.all_eq_true.1 hall t hm)⟩)
  (by kernel_rfl)
end Go.Proofs.YtfpopmojlmpopaaDoor.frameSums
namespace Go.Proofs.YtfpopmojlmpopaaDoor
theorem frameSums_holds : Rows.FrameSumsCardSaid := frameSums.card
#print axioms frameSums_holds
end Go.Proofs.YtfpopmojlmpopaaDoor

end
