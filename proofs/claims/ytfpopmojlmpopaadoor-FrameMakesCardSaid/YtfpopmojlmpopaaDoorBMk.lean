/-
  FrameMakes, proved for every input: for lists of lines within the bounds of the statement (Few, Lines) Diff succeeds, Apply makes the second list of the first one out of it, it is empty just if the lists are equal, its cost is symmetric and satisfies the triangle inequality; the examples of the chapter stand. Conditions: the listed package-level variables of strconv and math/bits hold what the program's text lays them (the card ties them); arguments may share memory.
-/
import Derived.Test.YtfpopmojlmpopaaDoorCards
import Derived.Test.YtfpopmojlmpopaaDoorTie
import Derived.SevenTiedAt
import Derived.Test.YtfpopmojlmpopaaDoorBMk1
import Derived.Test.YtfpopmojlmpopaaDoorBMk5
import Derived.Test.YtfpopmojlmpopaaDoorBMk7
section
namespace Go.Proofs.YtfpopmojlmpopaaDoor.frameMakes
open Go.ChangeShapes Go.WideShapes Go.ChangeAt Go.RowKit Go.Proofs.YtfpopmojlmpopaaDoorW.PrintWords Go.Proofs.YtfpopmojlmpopaaDoorW.PrintLast Go.Proofs.YtfpopmojlmpopaaDoorW.PrintMore Go.Proofs.YtfpopmojlmpopaaDoor.G Go.Proofs.YtfpopmojlmpopaaDoor.H Go.Proofs.YtfpopmojlmpopaaDoor.L
open Go.ChangeMaps (open_string shut_string)
set_option linter.unusedVariables false
theorem few_len {l : List ByteArray} (h : few l = true) : l.length ≤ 14 := by
 unfold few at h
 rw [Bool.and_eq_true, decide_eq_true_eq] at h
 exact h.1
theorem main (l0 l1 l2 : List ByteArray) (hc0 : few l0 = true) (hc1 : few l1 = true) (h0 : lineE l0 = 0) (h1 : lineE l1 = 0) (h2 : lineE l2 = 0) : Ev (fun k => salchowlaw49_FrameMakes.j0 k l0 l1 l2 false) true := by
 have aw : salchowlaw49_awake.f = some true := rfl
 have hdf : ∀ {a b : List ByteArray}, lineE a = 0 → lineE b = 0 → diffF a b = (diffL a b, 0) := fun ha hb => by unfold diffF; rw [if_pos ha, if_pos hb]
 have f0 := few_len hc0
 have f1 := few_len hc1
 refine Ev.step (f := fun k => (frame_Diff.f k l0 l1).bind fun bt255 => (frame_Diff.f k l1 l0).bind fun bt259 => (frame_Diff.f k l1 l2).bind fun bt263 => (frame_Diff.f k l0 l2).bind fun bt267 => if bt255.2 = 0 then if bt259.2 = 0 then if bt263.2 = 0 then salchowlaw49_FrameMakes.j1 k l0 l1 bt255.1 bt259.1 bt263.1 bt267.1 (bt267.2 != 0) else salchowlaw49_FrameMakes.j1 k l0 l1 bt255.1 bt259.1 bt263.1 bt267.1 true else salchowlaw49_FrameMakes.j1 k l0 l1 bt255.1 bt259.1 bt263.1 bt267.1 true else salchowlaw49_FrameMakes.j1 k l0 l1 bt255.1 bt259.1 bt263.1 bt267.1 true) (fun k => by
  simp only [salchowlaw49_FrameMakes.j0]
  rw [if_neg (by decide)]) ?_
 refine Ev.bind (diff_ev l0 l1) (Ev.bind (diff_ev l1 l0) (Ev.bind (diff_ev l1 l2) (Ev.bind (diff_ev l0 l2) ?_)))
 rw [hdf h0 h1, hdf h1 h0, hdf h1 h2, hdf h0 h2]
 refine Ev.congr (fun k => by rw [if_pos rfl, if_pos rfl, if_pos rfl]) ?_
 have hap := diffL_apply h0 h1 (by omega)
 have hb : ∀ x ∈ diffL l0 l1, okEdit x := fun x hx => by
  obtain ⟨g, hi⟩ := diffL_inv h0 h1
  have hg := posFrom_good hi.pos x hx
  have hf := hi.fit x hx
  have g0 := hg.a0
  have g1 := hg.d0
  have g2 := hg.d1
  exact ⟨⟨by omega, by omega⟩, ⟨by omega, by omega⟩⟩
 have hev := apply_ev l0 (diffL l0 l1) hb
 rw [hap] at hev
 refine Ev.step (f := fun k => (frame_Apply.f k l0 (diffL l0 l1)).bind fun bt271 => if bt271.2 = 0 then (salchowref49_SameLines.f k bt271.1 l1).bind fun t276 => if t276 = true then (salchowref49_SameLines.f k l0 l1).bind fun t277 => if ((((diffL l0 l1).length : Int) == 0) == t277) = true then (salchowref49_Cost.f k (diffL l0 l1)).bind fun t278 => (salchowref49_Cost.f k (diffL l1 l0)).bind fun t279 => if t278 = t279 then (salchowref49_Cost.f k (diffL l0 l2)).bind fun t280 => (salchowref49_Cost.f k (diffL l0 l1)).bind fun t281 => (salchowref49_Cost.f k (diffL l1 l2)).bind fun t282 => some (decide (t280 ≤ wrap64 (t281 + t282))) else some false else some false else some false else some false) (fun k => by
  simp only [salchowlaw49_FrameMakes.j1, aw, Option.bind_some]
  rfl) ?_
 refine Ev.bind hev (Ev.congr (fun k => if_pos rfl) (Ev.bind (sameLines_ev l1 l1 (by omega)) ?_))
 rw [decide_eq_true rfl]
 refine Ev.congr (fun k => if_pos rfl) (Ev.bind (sameLines_ev l0 l1 (by omega)) ?_)
 have he : ((((diffL l0 l1).length : Int) == 0) == decide (l0 = l1)) = true := by
  have hn := diffL_nil h0 h1
  by_cases e : l0 = l1
  ·rw [decide_eq_true e, hn.2 e]
   rfl
  ·rw [decide_eq_false e]
   have : ((diffL l0 l1).length : Int) ≠ 0 := fun h => e (hn.1 (List.length_eq_zero_iff.1 (by omega)))
   rw [beq_eq_false_iff_ne.2 this]
   rfl
 refine Ev.congr (fun k => if_pos he) (Ev.bind (diff_cost h0 h1) (Ev.bind (diff_cost h1 h0) ?_))
 refine Ev.congr (fun k => if_pos (by rw [D_symm])) (Ev.bind (diff_cost h0 h2) (Ev.bind (diff_cost h0 h1) (Ev.bind (diff_cost h1 h2) ?_)))
 have b1 := D_len l0 l1
 have b2 := D_len l1 l2
 have b3 := lineE_len h2
 have ht := D_tri l0 l1 l2
 rw [decide_eq_true (by rw [w64i _ (by omega)]; omega)]
 exact Ev.now true
theorem plain (l0 l1 l2 : List ByteArray) : Ev (fun k => salchowlaw49_FrameMakes.f k l0 l1 l2) true := by
 have aw : salchowlaw49_awake.f = some true := rfl
 have hj : Ev (fun k => salchowlaw49_FrameMakes.j0 k l0 l1 l2 true) true := Ev.step (fun k => by simp only [salchowlaw49_FrameMakes.j0, aw]; rfl) (Ev.now true)
 unfold salchowlaw49_FrameMakes.f
 refine Ev.bind (few_ev l0) ?_
 by_cases hc0 : few l0 = true
 ·rw [hc0]
  refine Ev.congr (fun k => if_pos rfl) (Ev.bind (few_ev l1) ?_)
  by_cases hc1 : few l1 = true
  ·rw [hc1]
   refine Ev.congr (fun k => if_pos rfl) (Ev.bind (few_ev l2) ?_)
   by_cases hc2 : few l2 = true
   ·rw [hc2]
    refine Ev.congr (fun k => if_pos rfl) (Ev.bind (rLines_ev l0) ?_)
    by_cases hd0 : (lineE l0 == 0) = true
    ·rw [hd0]
     refine Ev.congr (fun k => if_pos rfl) (Ev.bind (rLines_ev l1) ?_)
     by_cases hd1 : (lineE l1 == 0) = true
     ·rw [hd1]
      refine Ev.congr (fun k => if_pos rfl) (Ev.bind (rLines_ev l2) ?_)
      by_cases hd2 : (lineE l2 == 0) = true
      ·rw [hd2]
       exact main l0 l1 l2 hc0 hc1 (beq_iff_eq.1 hd0) (beq_iff_eq.1 hd1) (beq_iff_eq.1 hd2)
      ·rw [Bool.not_eq_true] at hd2
       rw [hd2]
       exact hj
     ·rw [Bool.not_eq_true] at hd1
      rw [hd1]
      exact Ev.congr (fun k => if_neg (by decide)) hj
    ·rw [Bool.not_eq_true] at hd0
     rw [hd0]
     exact Ev.congr (fun k => if_neg (by decide)) hj
   ·rw [Bool.not_eq_true] at hc2
    rw [hc2]
    exact Ev.congr (fun k => if_neg (by decide)) hj
  ·rw [Bool.not_eq_true] at hc1
   rw [hc1]
   exact Ev.congr (fun k => if_neg (by decide)) hj
 ·rw [Bool.not_eq_true] at hc0
  rw [hc0]
  exact Ev.congr (fun k => if_neg (by decide)) hj
theorem law (A0 : Option Addr) (c0 : Nat) (l0 : List ByteArray) (A1 : Option Addr) (c1 : Nat) (l1 : List ByteArray) (A2 : Option Addr) (c2 : Nat) (l2 : List ByteArray) (W : World) (hL : Laid W) (hr0 : Kd.C Kd.string W A0 l0.length l0) (hc0 : l0.length ≤ c0) (hr1 : Kd.C Kd.string W A1 l1.length l1) (hc1 : l1.length ≤ c1) (hr2 : Kd.C Kd.string W A2 l2.length l2) (hc2 : l2.length ≤ c2) :
  Calls Tryd.prog 7 #[.slice A0 l0.length c0, .slice A1 l1.length c1, .slice A2 l2.length c2] W fun e w' => e = .returned (.bool true) ∧ Below W.heap.size W w' := by
 obtain ⟨k, h⟩ := (plain l0 l1 l2).rounds
 exact salchowlaw49_FrameMakes.calls k A0 c0 l0 A1 c1 l1 A2 c2 l2 true W hL hr0 hc0 hr1 hc1 hr2 hc2 h
set_option maxRecDepth 100000 in
theorem lifted (os : Os) (started : os.Started) (H : Type) (enc : TypeId × Value → H) :
  ReturnsInHanded {} Tryd.checked os 7 .any (fun w args => (Rows.frameMakesSpec.pre enc Tryd.prog Tryd.f7 [] false w args ∧ laidMetH Tryd.prog Rows.frameMakesRow.laid w) ∧ sizedMet enc Tryd.prog Tryd.f7 (OpenSpec.ofChange Rows.frameMakesSpec) false w args)
   (Rows.frameMakesSpec.post enc Tryd.prog Tryd.f7 false true false false) := by
 refine returnsInHanded_of_change_and (C := Tryd.checked) (X := fun w _ => laidMetH Tryd.prog Rows.frameMakesRow.laid w) (fun _ _ _ hh h => h.of_heap hh) own started (by kernel_rfl) Tryd.func7
  (ChangeSpec.witness_shaped (enc := enc) (C := Tryd.checked) (os := os) (X := fun w _ => laidMetH Tryd.prog Rows.frameMakesRow.laid w) false (World.laidAll Tryd.prog os Rows.frameMakesRow.laid) #[.slice none 0 0, .slice none 0 0, .slice none 0 0] 8 (World.laidAll_os _ _ _)
   (World.shaped_of_ZipB (by kernel_rfl) (by kernel_rfl)) (by kernel_rfl) (by kernel_rfl) (by kernel_rfl)
   (by rw [MakeChecks.laidMetH_plain _ _ _ (by kernel_rfl)]; exact laidMet_laidAll _ (by kernel_rfl) (by kernel_rfl))) ?_
 intro W base args ds gs before hval0 hW _ hsz0 hld _
 have hsz : (DataW.weightsEach Tryd.prog (Tryd.f7.params.toList ++ Rows.frameMakesSpec.plain.varTypes Tryd.prog) (ds ++ gs)).all (· ≤ reachBytes) = true := hsz0
 have hval : ∀ (j : Nat) t v, Tryd.f7.params[j]? = some t → args[j]? = some v → Value.okWide Tryd.prog W .any base t v := hval0
 have hW' := hW
 have hL : Laid W := laid_of hld
 obtain ⟨p, q, hA0, hV, rfl, hfz, hnd⟩ := hW
 have hA : DataW.TrodAll enc Tryd.prog W 0 (fun _ => true) true Tryd.f7.params.toList args.toList ds p := hA0
 rw [Tryd.params7] at hA hval hsz
 obtain ⟨v0, vs0, d0, ds0, p0, q0, hargs, rfl, rfl, h0, r0⟩ := trodAll_cons hA
 obtain ⟨v1, vs1, d1, ds1, p1, q1, rfl, rfl, rfl, h1, r1⟩ := trodAll_cons r0
 obtain ⟨v2, vs2, d2, ds2, p2, q2, rfl, rfl, rfl, h2, r2⟩ := trodAll_cons r1
 obtain ⟨rfl, rfl, rfl⟩ := trodAll_nil r2
 obtain rfl : args = #[v0, v1, v2] := by cases args; simp_all
 obtain ⟨rfl, rfl⟩ := trodVars_none hV
 have k0 := h0
 have lt0 : ∀ x ∈ p0, x.block < W.heap.size := by obtain ⟨m, hm⟩ := k0; exact DataW.trod_lt m _ _ _ hm
 obtain ⟨a0, len0, cap0, rfl⟩ := okWide_slice Tryd.underlying28 (hval 0 28 v0 rfl rfl)
 obtain ⟨fu0, hf0⟩ := h0
 obtain ⟨A0, c0, l0, hq0, hc0, hr0, e0⟩ := row_strs (show DataW.trod enc Tryd.prog W 0 (fun _ => true) true fu0 28 [.slice a0 len0 cap0] = some _ from hf0)
 simp only [List.cons.injEq, Value.slice.injEq, and_true] at hq0
 obtain ⟨rfl, rfl, rfl⟩ := hq0
 have k1 := h1
 have lt1 : ∀ x ∈ p1, x.block < W.heap.size := by obtain ⟨m, hm⟩ := k1; exact DataW.trod_lt m _ _ _ hm
 obtain ⟨a1, len1, cap1, rfl⟩ := okWide_slice Tryd.underlying28 (hval 1 28 v1 rfl rfl)
 obtain ⟨fu1, hf1⟩ := h1
 obtain ⟨A1, c1, l1, hq1, hc1, hr1, e1⟩ := row_strs (show DataW.trod enc Tryd.prog W 0 (fun _ => true) true fu1 28 [.slice a1 len1 cap1] = some _ from hf1)
 simp only [List.cons.injEq, Value.slice.injEq, and_true] at hq1
 obtain ⟨rfl, rfl, rfl⟩ := hq1
 have k2 := h2
 have lt2 : ∀ x ∈ p2, x.block < W.heap.size := by obtain ⟨m, hm⟩ := k2; exact DataW.trod_lt m _ _ _ hm
 obtain ⟨a2, len2, cap2, rfl⟩ := okWide_slice Tryd.underlying28 (hval 2 28 v2 rfl rfl)
 obtain ⟨fu2, hf2⟩ := h2
 obtain ⟨A2, c2, l2, hq2, hc2, hr2, e2⟩ := row_strs (show DataW.trod enc Tryd.prog W 0 (fun _ => true) true fu2 28 [.slice a2 len2 cap2] = some _ from hf2)
 simp only [List.cons.injEq, Value.slice.injEq, and_true] at hq2
 obtain ⟨rfl, rfl, rfl⟩ := hq2
 clear hA0 hval0 hsz0
 refine (law a0 cap0 l0 a1 cap1 l1 a2 cap2 l2 W hL hr0 hc0 hr1 hc1 hr2 hc2).mono fun e W' ⟨he, bel⟩ => ?_
 subst he
 exact ⟨_, rfl, _, _, _, [], _, [], hW', trodAll_mk1 (shut_bool Tryd.underlying4 _), (trodAll_cons_mk (Below.trod laidOut (by kernel_rfl) (of_decide_eq_true (by kernel_rfl)) k0 bel lt0) (trodAll_cons_mk (Below.trod laidOut (by kernel_rfl) (of_decide_eq_true (by kernel_rfl)) k1 bel lt1) (trodAll_cons_mk (Below.trod laidOut (by kernel_rfl) (of_decide_eq_true (by kernel_rfl)) k2 bel lt2) trodAll_mk0))), rfl, bel.frame _, fun h => by cases h⟩
theorem holds : Rows.FrameMakesSaid :=
 OpenClaim.holds_of_wide 7 Tryd.f7 rfl rfl rfl rfl rfl rfl rfl ⟨rfl, rfl, rfl, rfl, rfl⟩ rfl rfl rfl rfl rfl (by kernel_rfl) Tryd.func7 (by kernel_rfl)
  (of_decide_eq_true (by kernel_rfl)) (by unfold Func.isWrapper; first | (rw [if_pos (by decide +kernel)]; kernel_rfl) | (rw [if_neg (by decide +kernel)]; exact ⟨rfl, rfl⟩))
  (fun os started H enc _ => lifted os started H enc)
theorem card : Rows.FrameMakesCardSaid :=
 Claim7.holds_tied_plain_at .later [] [.data, .data, .data, .sentinel, .sentinel] true (true, "6b462eb325728ae18f47a0354160277bd724a72b7f62f8e01c5e16a78c976214") true holds (fun _ h => by cases h) (by kernel_rfl) (fun _ h => by cases h) frameMakes_row_tie rfl ⟨rfl, rfl⟩ (by kernel_rfl) rfl
  (fun f fn hf hfn => by
   obtain rfl : f = 7 := Option.some.inj ((show Tryd.prog.funcNamed "salchow/salchowlaw49.FrameMakes" = some 7 by kernel_rfl).symm.trans hf) |>.symm
   obtain rfl : fn = Tryd.f7 := (Option.some.inj (Tryd.func7.symm.trans hfn)).symm
   exact ⟨by kernel_rfl, fun j t ht => by
    rw [Tryd.params7] at ht
    have hm : t ∈ [28, 28, 28] := by simpa using Array.mem_of_getElem? ht
    have hall : ([28, 28, 28].all fun u => !Tryd.prog.wantsStandIn u) = true := by kernel_rfl
    exact (show Tryd.prog.wantsStandIn t = false by simpa using List.all_eq_true.1 hall t hm)⟩)
  (by kernel_rfl)
end Go.Proofs.YtfpopmojlmpopaaDoor.frameMakes
namespace Go.Proofs.YtfpopmojlmpopaaDoor
theorem frameMakes_holds : Rows.FrameMakesCardSaid := frameMakes.card
#print axioms frameMakes_holds
end Go.Proofs.YtfpopmojlmpopaaDoor

end
