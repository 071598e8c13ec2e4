/-
  FrameLeast, proved for every input: within the bounds of the statement (Few, Small), if Apply accepts edits of a list, Diff of the list and of what they make succeeds and costs at most what they cost; the examples of the chapter stand. Conditions: the listed package-level variables of strconv and math/bits hold what the program's text lays them (the card ties them); arguments may share memory.
-/
import Derived.Test.YtfpopmojlmpopaaDoorCards
import Derived.Test.YtfpopmojlmpopaaDoorTie
import Derived.SevenTiedAt
import Derived.Test.YtfpopmojlmpopaaDoorBLs1
import Derived.Test.YtfpopmojlmpopaaDoorBLs5
import Derived.Test.YtfpopmojlmpopaaDoorBLs7
section
namespace Go.Proofs.YtfpopmojlmpopaaDoor.frameLeast
open Go.ChangeShapes Go.WideShapes Go.ChangeAt Go.RowKit Go.Proofs.YtfpopmojlmpopaaDoorW.PrintWords Go.Proofs.YtfpopmojlmpopaaDoorW.PrintLast Go.Proofs.YtfpopmojlmpopaaDoorW.PrintMore Go.Proofs.YtfpopmojlmpopaaDoor.G Go.Proofs.YtfpopmojlmpopaaDoor.H Go.Proofs.YtfpopmojlmpopaaDoor.L
open Go.ChangeMaps (open_string shut_string)
set_option linter.unusedVariables false
theorem plain (l0 : List ByteArray) (l1 : List S52) (hb : ∀ x ∈ l1, okEdit x) : Ev (fun k => salchowlaw49_FrameLeast.f k l0 l1) true := by
 have aw : salchowlaw49_awake.f = some true := rfl
 have hj : Ev (fun k => salchowlaw49_FrameLeast.j0 k l0 l1 true) true := Ev.step (fun k => by simp only [salchowlaw49_FrameLeast.j0, aw]; rfl) (Ev.now true)
 unfold salchowlaw49_FrameLeast.f
 refine Ev.bind (few_ev l0) ?_
 by_cases hc : few l0 = true
 ·rw [hc]
  refine Ev.congr (fun k => if_pos rfl) (Ev.bind (small_ev 0 0 0 0 0 [] l1) ?_)
  by_cases hd : small [] l1 = true
  ·rw [hd]
   refine Ev.step (f := fun k => (frame_Apply.f k l0 l1).bind fun bt286 => if bt286.2 = 0 then (frame_Diff.f k l0 bt286.1).bind fun bt291 => if bt291.2 = 0 then (salchowref49_Cost.f k bt291.1).bind fun t296 => (salchowref49_Cost.f k l1).bind fun t297 => some (decide (t296 ≤ t297)) else some false else some true) (fun k => by
    simp only [salchowlaw49_FrameLeast.j0, aw, Option.bind_some]
    rfl) ?_
   refine Ev.bind (apply_ev l0 l1 hb) ?_
   by_cases h0 : (applyF l0 l1).2 = 0
   ·obtain ⟨h1, h2, h3, h4⟩ := apply_ok hb h0
    obtain ⟨h5, h6⟩ := posE_len h4
    have hg := posFrom_good h6
    have hdf : diffF l0 (applyF l0 l1).1 = (diffL l0 (applyF l0 l1).1, 0) := by unfold diffF; rw [if_pos h1, if_pos h2]
    refine Ev.congr (fun k => if_pos h0) (Ev.bind (diff_ev l0 (applyF l0 l1).1) ?_)
    rw [hdf]
    refine Ev.congr (fun k => if_pos rfl) (Ev.bind (diff_cost h1 h2) (Ev.bind (cost_ev l1 (Nat.le_trans h5 (by decide)) (fun x hx => ⟨(hg x hx).d0, (hg x hx).d1, (hg x hx).l1⟩)) ?_))
    rw [decide_eq_true h3]
    exact Ev.now true
   ·exact Ev.congr (fun k => if_neg h0) (Ev.now true)
  ·rw [Bool.not_eq_true] at hd
   rw [hd]
   exact hj
 ·rw [Bool.not_eq_true] at hc
  rw [hc]
  exact Ev.congr (fun k => if_neg (by decide)) hj
theorem law (A0 : Option Addr) (c0 : Nat) (l0 : List ByteArray) (A1 : Option Addr) (c1 : Nat) (l1 : List S52) (W : World) (hL : Laid W) (hr0 : Kd.C Kd.string W A0 l0.length l0) (hc0 : l0.length ≤ c0) (hr1 : Kd.C k52 W A1 l1.length l1) (hc1 : l1.length ≤ c1) (e1 : ∀ y ∈ l1, okEdit y) :
  Calls Tryd.prog 8 #[.slice A0 l0.length c0, .slice A1 l1.length c1] W fun e w' => e = .returned (.bool true) ∧ Below W.heap.size W w' := by
 obtain ⟨k, h⟩ := (plain l0 l1 e1).rounds
 exact salchowlaw49_FrameLeast.calls k A0 c0 l0 A1 c1 l1 true W hL hr0 hc0 hr1 hc1 h
set_option maxRecDepth 100000 in
theorem lifted (os : Os) (started : os.Started) (H : Type) (enc : TypeId × Value → H) :
  ReturnsInHanded {} Tryd.checked os 8 .any (fun w args => (Rows.frameLeastSpec.pre enc Tryd.prog Tryd.f8 [] false w args ∧ laidMetH Tryd.prog Rows.frameLeastRow.laid w) ∧ sizedMet enc Tryd.prog Tryd.f8 (OpenSpec.ofChange Rows.frameLeastSpec) false w args)
   (Rows.frameLeastSpec.post enc Tryd.prog Tryd.f8 false true false false) := by
 refine returnsInHanded_of_change_and (C := Tryd.checked) (X := fun w _ => laidMetH Tryd.prog Rows.frameLeastRow.laid w) (fun _ _ _ hh h => h.of_heap hh) own started (by kernel_rfl) Tryd.func8
  (ChangeSpec.witness_shaped (enc := enc) (C := Tryd.checked) (os := os) (X := fun w _ => laidMetH Tryd.prog Rows.frameLeastRow.laid w) false (World.laidAll Tryd.prog os Rows.frameLeastRow.laid) #[.slice none 0 0, .slice none 0 0] 8 (World.laidAll_os _ _ _)
   (World.shaped_of_ZipB (by kernel_rfl) (by kernel_rfl)) (by kernel_rfl) (by kernel_rfl) (by kernel_rfl)
   (by rw [MakeChecks.laidMetH_plain _ _ _ (by kernel_rfl)]; exact laidMet_laidAll _ (by kernel_rfl) (by kernel_rfl))) ?_
 intro W base args ds gs before hval0 hW _ hsz0 hld _
 have hsz : (DataW.weightsEach Tryd.prog (Tryd.f8.params.toList ++ Rows.frameLeastSpec.plain.varTypes Tryd.prog) (ds ++ gs)).all (· ≤ reachBytes) = true := hsz0
 have hval : ∀ (j : Nat) t v, Tryd.f8.params[j]? = some t → args[j]? = some v → Value.okWide Tryd.prog W .any base t v := hval0
 have hW' := hW
 have hL : Laid W := laid_of hld
 obtain ⟨p, q, hA0, hV, rfl, hfz, hnd⟩ := hW
 have hA : DataW.TrodAll enc Tryd.prog W 0 (fun _ => true) true Tryd.f8.params.toList args.toList ds p := hA0
 rw [Tryd.params8] at hA hval hsz
 obtain ⟨v0, vs0, d0, ds0, p0, q0, hargs, rfl, rfl, h0, r0⟩ := trodAll_cons hA
 obtain ⟨v1, vs1, d1, ds1, p1, q1, rfl, rfl, rfl, h1, r1⟩ := trodAll_cons r0
 obtain ⟨rfl, rfl, rfl⟩ := trodAll_nil r1
 obtain rfl : args = #[v0, v1] := by cases args; simp_all
 obtain ⟨rfl, rfl⟩ := trodVars_none hV
 have k0 := h0
 have lt0 : ∀ x ∈ p0, x.block < W.heap.size := by obtain ⟨m, hm⟩ := k0; exact DataW.trod_lt m _ _ _ hm
 obtain ⟨a0, len0, cap0, rfl⟩ := okWide_slice Tryd.underlying28 (hval 0 28 v0 rfl rfl)
 obtain ⟨fu0, hf0⟩ := h0
 obtain ⟨A0, c0, l0, hq0, hc0, hr0, e0⟩ := row_strs (show DataW.trod enc Tryd.prog W 0 (fun _ => true) true fu0 28 [.slice a0 len0 cap0] = some _ from hf0)
 simp only [List.cons.injEq, Value.slice.injEq, and_true] at hq0
 obtain ⟨rfl, rfl, rfl⟩ := hq0
 have k1 := h1
 have lt1 : ∀ x ∈ p1, x.block < W.heap.size := by obtain ⟨m, hm⟩ := k1; exact DataW.trod_lt m _ _ _ hm
 obtain ⟨a1, len1, cap1, rfl⟩ := okWide_slice Tryd.underlying29 (hval 1 29 v1 rfl rfl)
 obtain ⟨fu1, hf1⟩ := h1
 obtain ⟨A1, c1, l1, hq1, hc1, hr1, e1⟩ := row_edits (show DataW.trod enc Tryd.prog W 0 (fun _ => true) true fu1 29 [.slice a1 len1 cap1] = some _ from hf1)
 simp only [List.cons.injEq, Value.slice.injEq, and_true] at hq1
 obtain ⟨rfl, rfl, rfl⟩ := hq1
 clear hA0 hval0 hsz0
 refine (law a0 cap0 l0 a1 cap1 l1 W hL hr0 hc0 hr1 hc1 e1).mono fun e W' ⟨he, bel⟩ => ?_
 subst he
 exact ⟨_, rfl, _, _, _, [], _, [], hW', trodAll_mk1 (shut_bool Tryd.underlying4 _), (trodAll_cons_mk (Below.trod laidOut (by kernel_rfl) (of_decide_eq_true (by kernel_rfl)) k0 bel lt0) (trodAll_cons_mk (Below.trod laidOut (by kernel_rfl) (of_decide_eq_true (by kernel_rfl)) k1 bel lt1) trodAll_mk0)), rfl, bel.frame _, fun h => by cases h⟩
theorem holds : Rows.FrameLeastSaid :=
 OpenClaim.holds_of_wide 8 Tryd.f8 rfl rfl rfl rfl rfl rfl rfl ⟨rfl, rfl, rfl, rfl, rfl⟩ rfl rfl rfl rfl rfl (by kernel_rfl) Tryd.func8 (by kernel_rfl)
  (of_decide_eq_true (by kernel_rfl)) (by unfold Func.isWrapper; first | (rw [if_pos (by decide +kernel)]; kernel_rfl) | (rw [if_neg (by decide +kernel)]; exact ⟨rfl, rfl⟩))
  (fun os started H enc _ => lifted os started H enc)
theorem card : Rows.FrameLeastCardSaid :=
 Claim7.holds_tied_plain_at .later [] [.data, .data, .data, .sentinel, .sentinel] true (true, "6b462eb325728ae18f47a0354160277bd724a72b7f62f8e01c5e16a78c976214") true holds (fun _ h => by cases h) (by kernel_rfl) (fun _ h => by cases h) frameLeast_row_tie rfl ⟨rfl, rfl⟩ (by kernel_rfl) rfl
  (fun f fn hf hfn => by
   obtain rfl : f = 8 := Option.some.inj ((show Tryd.prog.funcNamed "salchow/salchowlaw49.FrameLeast" = some 8 by kernel_rfl).symm.trans hf) |>.symm
   obtain rfl : fn = Tryd.f8 := (Option.some.inj (Tryd.func8.symm.trans hfn)).symm
   exact ⟨by kernel_rfl, fun j t ht => by
    rw [Tryd.params8] at ht
    have hm : t ∈ [28, 29] := by simpa using Array.mem_of_getElem? ht
    have hall : ([28, 29].all fun u => !Tryd.prog.wantsStandIn u) = true := by kernel_rfl
    exact (show Tryd.prog.wantsStandIn t = false by simpa using List.all_eq_true.1 hall t hm)⟩)
  (by kernel_rfl)
end Go.Proofs.YtfpopmojlmpopaaDoor.frameLeast
namespace Go.Proofs.YtfpopmojlmpopaaDoor
theorem frameLeast_holds : Rows.FrameLeastCardSaid := frameLeast.card
#print axioms frameLeast_holds
end Go.Proofs.YtfpopmojlmpopaaDoor

end
