/-
  FrameEqual, proved for every input: Equal of two frames within the bounds of the statement (Small) answers as the reference's Equal, field by field, and a frame is equal to itself; the examples of the chapter stand. Conditions: the listed package-level variables of strconv and math/bits hold what the program's text lays them (the card ties them); arguments may share memory.
-/
import Derived.Test.YtfpopmojlmpopaaDoorCards
import Derived.Test.YtfpopmojlmpopaaDoorTie
import Derived.SevenTiedAt
import Derived.Test.YtfpopmojlmpopaaDoorBEq1
import Derived.Test.YtfpopmojlmpopaaDoorBEq3
import Derived.Test.YtfpopmojlmpopaaDoorBEq8
section
namespace Go.Proofs.YtfpopmojlmpopaaDoor.frameEqual
open Go.ChangeShapes Go.WideShapes Go.ChangeAt Go.RowKit Go.Proofs.YtfpopmojlmpopaaDoorW.PrintWords Go.Proofs.YtfpopmojlmpopaaDoorW.PrintLast Go.Proofs.YtfpopmojlmpopaaDoorW.PrintMore Go.Proofs.YtfpopmojlmpopaaDoor.G Go.Proofs.YtfpopmojlmpopaaDoor.H Go.Proofs.YtfpopmojlmpopaaDoor.L
open Go.ChangeMaps (open_string shut_string)
set_option linter.unusedVariables false
theorem plain (n0_0 n0_1 n0_2 n0_3 n0_4 : Int) (l0_5 : List ByteArray) (l0_6 : List S52) (n1_0 n1_1 n1_2 n1_3 n1_4 : Int) (l1_5 : List ByteArray) (l1_6 : List S52)
  (h5 : l0_5.length ≤ 9223372036854775807) (h6 : l0_6.length ≤ 9223372036854775807) (hs : ∀ x ∈ l0_6, x.f2.length ≤ 9223372036854775807) :
  Ev (fun k => salchowlaw49_FrameEqual.f k n0_0 n0_1 n0_2 n0_3 n0_4 l0_5 l0_6 n1_0 n1_1 n1_2 n1_3 n1_4 l1_5 l1_6) true := by
 have aw : salchowlaw49_awake.f = some true := rfl
 have hj : Ev (fun k => salchowlaw49_FrameEqual.j0 k true n0_0 n0_1 n0_2 n0_3 n0_4 l0_5 l0_6 n1_0 n1_1 n1_2 n1_3 n1_4 l1_5 l1_6) true :=
  Ev.step (fun k => by simp only [salchowlaw49_FrameEqual.j0, aw]; rfl) (Ev.now true)
 unfold salchowlaw49_FrameEqual.f
 refine Ev.bind (small_ev n0_0 n0_1 n0_2 n0_3 n0_4 l0_5 l0_6) ?_
 by_cases hc : small l0_5 l0_6 = true
 ·rw [hc]
  refine Ev.congr (fun k => if_pos rfl) (Ev.bind (small_ev n1_0 n1_1 n1_2 n1_3 n1_4 l1_5 l1_6) ?_)
  by_cases hd : small l1_5 l1_6 = true
  ·rw [hd]
   refine Ev.step (f := fun k => (frame_Equal.f k n0_0 n0_1 n0_2 n0_3 n0_4 l0_5 l0_6 n1_0 n1_1 n1_2 n1_3 n1_4 l1_5 l1_6).bind fun t308 => (salchowref49_Equal.f k n0_0 n0_1 n0_2 n0_3 n0_4 l0_5 l0_6 n1_0 n1_1 n1_2 n1_3 n1_4 l1_5 l1_6).bind fun t309 => if (t308 == t309) = true then (frame_Equal.f k n0_0 n0_1 n0_2 n0_3 n0_4 l0_5 l0_6 n0_0 n0_1 n0_2 n0_3 n0_4 l0_5 l0_6).bind fun t310 => some t310 else some false) (fun k => by
    simp only [salchowlaw49_FrameEqual.j0, aw, Option.bind_some]
    rfl) ?_
   refine Ev.bind (Ev.now (eqF n0_0 n0_1 n0_2 n0_3 n0_4 l0_5 l0_6 n1_0 n1_1 n1_2 n1_3 n1_4 l1_5 l1_6)) (Ev.bind (refEqual_ev _ _ _ _ _ _ _ _ _ _ _ _ _ _ h5 h6 hs) ?_)
   refine Ev.congr (fun k => if_pos (beq_self_eq_true _)) (Ev.bind (Ev.now (eqF n0_0 n0_1 n0_2 n0_3 n0_4 l0_5 l0_6 n0_0 n0_1 n0_2 n0_3 n0_4 l0_5 l0_6)) ?_)
   rw [eqF_refl]
   exact Ev.now true
  ·rw [Bool.not_eq_true] at hd
   rw [hd]
   exact hj
 ·rw [Bool.not_eq_true] at hc
  rw [hc]
  exact Ev.congr (fun k => if_neg (by decide)) hj
theorem law (n0_0 n0_1 n0_2 n0_3 n0_4 : Int) (A0_5 : Option Addr) (c0_5 : Nat) (l0_5 : List ByteArray) (A0_6 : Option Addr) (c0_6 : Nat) (l0_6 : List S52) (n1_0 n1_1 n1_2 n1_3 n1_4 : Int) (A1_5 : Option Addr) (c1_5 : Nat) (l1_5 : List ByteArray) (A1_6 : Option Addr) (c1_6 : Nat) (l1_6 : List S52) (W : World) (hL : Laid W) (hr0_5 : Kd.C Kd.string W A0_5 l0_5.length l0_5) (hc0_5 : l0_5.length ≤ c0_5) (hr0_6 : Kd.C k52 W A0_6 l0_6.length l0_6) (hc0_6 : l0_6.length ≤ c0_6) (hr1_5 : Kd.C Kd.string W A1_5 l1_5.length l1_5) (hc1_5 : l1_5.length ≤ c1_5) (hr1_6 : Kd.C k52 W A1_6 l1_6.length l1_6) (hc1_6 : l1_6.length ≤ c1_6) :
  Calls Tryd.prog 9 #[.agg #[.int .i64 n0_0, .int .i64 n0_1, .int .i64 n0_2, .int .i64 n0_3, .int .i64 n0_4, .slice A0_5 l0_5.length c0_5, .slice A0_6 l0_6.length c0_6], .agg #[.int .i64 n1_0, .int .i64 n1_1, .int .i64 n1_2, .int .i64 n1_3, .int .i64 n1_4, .slice A1_5 l1_5.length c1_5, .slice A1_6 l1_6.length c1_6]] W fun e w' => e = .returned (.bool true) ∧ Below W.heap.size W w' := by
 obtain ⟨k, h⟩ := (plain n0_0 n0_1 n0_2 n0_3 n0_4 l0_5 l0_6 n1_0 n1_1 n1_2 n1_3 n1_4 l1_5 l1_6 (Kd.C_max hr0_5) (Kd.C_max hr0_6) (edits_max hr0_6)).rounds
 exact salchowlaw49_FrameEqual.calls k n0_0 n0_1 n0_2 n0_3 n0_4 A0_5 c0_5 l0_5 A0_6 c0_6 l0_6 n1_0 n1_1 n1_2 n1_3 n1_4 A1_5 c1_5 l1_5 A1_6 c1_6 l1_6 true W hL hr0_5 hc0_5 hr0_6 hc0_6 hr1_5 hc1_5 hr1_6 hc1_6 h
set_option maxRecDepth 100000 in
theorem lifted (os : Os) (started : os.Started) (H : Type) (enc : TypeId × Value → H) :
  ReturnsInHanded {} Tryd.checked os 9 .any (fun w args => (Rows.frameEqualSpec.pre enc Tryd.prog Tryd.f9 [] false w args ∧ laidMetH Tryd.prog Rows.frameEqualRow.laid w) ∧ sizedMet enc Tryd.prog Tryd.f9 (OpenSpec.ofChange Rows.frameEqualSpec) false w args)
   (Rows.frameEqualSpec.post enc Tryd.prog Tryd.f9 false true false false) := by
 refine returnsInHanded_of_change_and (C := Tryd.checked) (X := fun w _ => laidMetH Tryd.prog Rows.frameEqualRow.laid w) (fun _ _ _ hh h => h.of_heap hh) own started (by kernel_rfl) Tryd.func9
  (ChangeSpec.witness_shaped (enc := enc) (C := Tryd.checked) (os := os) (X := fun w _ => laidMetH Tryd.prog Rows.frameEqualRow.laid w) false (World.laidAll Tryd.prog os Rows.frameEqualRow.laid) #[.agg #[.int .i64 0, .int .i64 0, .int .i64 0, .int .i64 0, .int .i64 0, .slice none 0 0, .slice none 0 0], .agg #[.int .i64 0, .int .i64 0, .int .i64 0, .int .i64 0, .int .i64 0, .slice none 0 0, .slice none 0 0]] 8 (World.laidAll_os _ _ _)
   (World.shaped_of_ZipB (by kernel_rfl) (by kernel_rfl)) (by kernel_rfl) (by kernel_rfl) (by kernel_rfl)
   (by rw [MakeChecks.laidMetH_plain _ _ _ (by kernel_rfl)]; exact laidMet_laidAll _ (by kernel_rfl) (by kernel_rfl))) ?_
 intro W base args ds gs before hval0 hW _ hsz0 hld _
 have hsz : (DataW.weightsEach Tryd.prog (Tryd.f9.params.toList ++ Rows.frameEqualSpec.plain.varTypes Tryd.prog) (ds ++ gs)).all (· ≤ reachBytes) = true := hsz0
 have hval : ∀ (j : Nat) t v, Tryd.f9.params[j]? = some t → args[j]? = some v → Value.okWide Tryd.prog W .any base t v := hval0
 have hW' := hW
 have hL : Laid W := laid_of hld
 obtain ⟨p, q, hA0, hV, rfl, hfz, hnd⟩ := hW
 have hA : DataW.TrodAll enc Tryd.prog W 0 (fun _ => true) true Tryd.f9.params.toList args.toList ds p := hA0
 rw [Tryd.params9] at hA hval hsz
 obtain ⟨v0, vs0, d0, ds0, p0, q0, hargs, rfl, rfl, h0, r0⟩ := trodAll_cons hA
 obtain ⟨v1, vs1, d1, ds1, p1, q1, rfl, rfl, rfl, h1, r1⟩ := trodAll_cons r0
 obtain ⟨rfl, rfl, rfl⟩ := trodAll_nil r1
 obtain rfl : args = #[v0, v1] := by cases args; simp_all
 obtain ⟨rfl, rfl⟩ := trodVars_none hV
 have k0 := h0
 have lt0 : ∀ x ∈ p0, x.block < W.heap.size := by obtain ⟨m, hm⟩ := k0; exact DataW.trod_lt m _ _ _ hm
 obtain ⟨n0_0, n0_1, n0_2, n0_3, n0_4, A0_5, c0_5, l0_5, A0_6, c0_6, l0_6, rfl, o0, hc0_5, hr0_5, hc0_6, hr0_6, e0⟩ := row_frame (hval 0 31 v0 rfl rfl) h0
 have k1 := h1
 have lt1 : ∀ x ∈ p1, x.block < W.heap.size := by obtain ⟨m, hm⟩ := k1; exact DataW.trod_lt m _ _ _ hm
 obtain ⟨n1_0, n1_1, n1_2, n1_3, n1_4, A1_5, c1_5, l1_5, A1_6, c1_6, l1_6, rfl, o1, hc1_5, hr1_5, hc1_6, hr1_6, e1⟩ := row_frame (hval 1 31 v1 rfl rfl) h1
 clear hA0 hval0 hsz0
 refine (law n0_0 n0_1 n0_2 n0_3 n0_4 A0_5 c0_5 l0_5 A0_6 c0_6 l0_6 n1_0 n1_1 n1_2 n1_3 n1_4 A1_5 c1_5 l1_5 A1_6 c1_6 l1_6 W hL hr0_5 hc0_5 hr0_6 hc0_6 hr1_5 hc1_5 hr1_6 hc1_6).mono fun e W' ⟨he, bel⟩ => ?_
 subst he
 exact ⟨_, rfl, _, _, _, [], _, [], hW', trodAll_mk1 (shut_bool Tryd.underlying4 _), (trodAll_cons_mk (Below.trod laidOut (by kernel_rfl) (of_decide_eq_true (by kernel_rfl)) k0 bel lt0) (trodAll_cons_mk (Below.trod laidOut (by kernel_rfl) (of_decide_eq_true (by kernel_rfl)) k1 bel lt1) trodAll_mk0)), rfl, bel.frame _, fun h => by cases h⟩
theorem holds : Rows.FrameEqualSaid :=
 OpenClaim.holds_of_wide 9 Tryd.f9 rfl rfl rfl rfl rfl rfl rfl ⟨rfl, rfl, rfl, rfl, rfl⟩ rfl rfl rfl rfl rfl (by kernel_rfl) Tryd.func9 (by kernel_rfl)
  (of_decide_eq_true (by kernel_rfl)) (by unfold Func.isWrapper; first | (rw [if_pos (by decide +kernel)]; kernel_rfl) | (rw [if_neg (by decide +kernel)]; exact ⟨rfl, rfl⟩))
  (fun os started H enc _ => lifted os started H enc)
theorem card : Rows.FrameEqualCardSaid :=
 Claim7.holds_tied_plain_at .later [] [.data, .data, .data, .sentinel, .sentinel] true (true, "6b462eb325728ae18f47a0354160277bd724a72b7f62f8e01c5e16a78c976214") true holds (fun _ h => by cases h) (by kernel_rfl) (fun _ h => by cases h) frameEqual_row_tie rfl ⟨rfl, rfl⟩ (by kernel_rfl) rfl
  (fun f fn hf hfn => by
   obtain rfl : f = 9 := Option.some.inj ((show Tryd.prog.funcNamed "salchow/salchowlaw49.FrameEqual" = some 9 by kernel_rfl).symm.trans hf) |>.symm
   obtain rfl : fn = Tryd.f9 := (Option.some.inj (Tryd.func9.symm.trans hfn)).symm
   exact ⟨by kernel_rfl, fun j t ht => by
    rw [Tryd.params9] at ht
    have hm : t ∈ [31, 31] := by simpa using Array.mem_of_getElem? ht
    have hall : ([31, 31].all fun u => !Tryd.prog.wantsStandIn u) = true := by kernel_rfl
    exact (show Tryd.prog.wantsStandIn t = false by simpa using List.all_eq_true.1 hall t hm)⟩)
  (by kernel_rfl)
end Go.Proofs.YtfpopmojlmpopaaDoor.frameEqual
namespace Go.Proofs.YtfpopmojlmpopaaDoor
theorem frameEqual_holds : Rows.FrameEqualCardSaid := frameEqual.card
#print axioms frameEqual_holds
end Go.Proofs.YtfpopmojlmpopaaDoor

end
