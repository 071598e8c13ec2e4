/-
  Part 7 of the proof: words about memory and rows, functions of the program as Lean functions with the contracts that its code comes to just their answers, and plain lemmas; no conditions of its own.
-/
import Derived.Deep.MidRow
import Derived.Lib.SlBytesConst
import Derived.Test.YtfpopmojlmpopaaDoorBMk1
import Derived.Test.YtfpopmojlmpopaaDoorBMk2
import Derived.Test.YtfpopmojlmpopaaDoorBMk3
import Derived.Test.YtfpopmojlmpopaaDoorBMk4
import Derived.Test.YtfpopmojlmpopaaDoorBMk5
import Derived.Test.YtfpopmojlmpopaaDoorBMk6
section
namespace Go.Proofs.YtfpopmojlmpopaaDoor.H
open Go.RowKit Go.Proofs.YtfpopmojlmpopaaDoorW.PrintWords Go.Proofs.YtfpopmojlmpopaaDoorW.PrintLast Go.Proofs.YtfpopmojlmpopaaDoorW.PrintMore Go.Proofs.YtfpopmojlmpopaaDoor.G
set_option linter.unusedVariables false
set_option linter.unusedSimpArgs false
theorem arr_at (w : World) (ad : Addr) (c : Nat) : (Instr.arrayAt 63 (.slice (some ad) 4 c)).run Tryd.prog w = .ok (.pointer (some ad)) w := by
 simp only [Instr.arrayAt, run_underlying Tryd.underlying63, Sem.run_bind, Result.andThen_ok]
 simp
theorem arr_eq4 (w : World) (a0 a1 a2 a3 b0 b1 b2 b3 : Int) : (Op.equalIn 10000 63 (.agg #[.int .u8 a0, .int .u8 a1, .int .u8 a2, .int .u8 a3]) (.agg #[.int .u8 b0, .int .u8 b1, .int .u8 b2, .int .u8 b3])).run Tryd.prog w = .ok (a0 == b0 && (a1 == b1 && (a2 == b2 && a3 == b3))) w := by
 have hu := Tryd.underlying63
 have h5 := Tryd.underlying5
 have e : ∀ a b : Int, (Op.equalIn 9999 5 (.int .u8 a) (.int .u8 b)).run Tryd.prog w = .ok (a == b) w := fun a b => run_equalIn_int w 9998 5 .u8 .u8 a b h5
 have hs : (sizeOf 5).run Tryd.prog w = .ok 1 w := by kernel_rfl
 have hp : ∀ (c0 c1 c2 c3 : Value) (k : Nat) (hk : k < 4), (part 5 #[c0, c1, c2, c3] k).run Tryd.prog w = .ok (#[c0, c1, c2, c3].getD k undef) w := by
  intro c0 c1 c2 c3 k hk
  have hi : (isAgg 5).run Tryd.prog w = .ok false w := by kernel_rfl
  match k, hk with
  | 0, _ => simp [part, Sem.run_bind, hi]
  | 1, _ => simp [part, Sem.run_bind, hi]
  | 2, _ => simp [part, Sem.run_bind, hi]
  | 3, _ => simp [part, Sem.run_bind, hi]
 rw [Op.equalIn]
 simp only [Sem.run_bind, run_underlying hu, Result.andThen_ok, hs]
 simp [List.range', Sem.run_bind, e, hp]
 by_cases h0 : a0 = b0 <;> by_cases h1 : a1 = b1 <;> by_cases h2 : a2 = b2 <;> by_cases h3 : a3 = b3 <;> simp [h0, h1, h2, h3]
theorem dec_ret (tm : Array Value) (W : World) (gq : Nat) (cs : Array Value) (n : Int) (h2 : tm.getD 2 undef = .pointer (some ⟨gq, 0, none⟩)) (h3 : tm.getD 3 undef = .int .i64 n)
  (hg : W.heap[gq]? = some (.cells cs 31 (0, 0))) (hs : cs.size = 7) : (results Tryd.f15 tm).run Tryd.prog W = .ok (.tuple #[.agg cs, .int .i64 n]) W := by
 rw [results_cell_tmp (fn := Tryd.f15) (p := 2) (u := 3) (ty := 31) rfl, h2, h3]
 have hu := Tryd.underlying31
 have hi : (Tryd.prog.info? 31).map (·.size) = some cs.size := by rw [hs]; kernel_rfl
 have := run_loadVar_row W gq 31 31 cs (0, 0) _ hg hu rfl hi
 simp only [asAddr, Sem.run_pure, Result.andThen_ok, this]
theorem dec_row {W : World} {gq : Nat} {old cs : Array Value} (hg : W.heap[gq]? = some (.cells old 31 (0, 0))) : (W.setRow gq cs).heap[gq]? = some (.cells cs 31 (0, 0)) := setRow_heap _ _ _ _ _ _ hg
theorem dec_kept {α : Type} {d : Kd α} {e : Nat} {W : World} {gq b : Nat} {old cs : Array Value} {v : Value} {l : List α} {X : Nat → Prop} (h : Kd.R d e W b X v l) (hq : W.heap[gq]? = some (.cells old 31 (0, 0))) (ht : ∀ q, q ∈ e :: d.E → q ≠ 31) : Kd.R d e (W.setRow gq cs) b (fun _ => True) v l :=
 Kd.R_mono (Kd.R_grown (Kd.R_types h hq ht) (setRow_grownBy W gq cs) (fun k hk => by intro he; exact hk.2 (by injection he))) (fun _ _ => trivial)
set_option maxHeartbeats 8000000 in
set_option maxRecDepth 100000 in
theorem frame_Decode.calls (K : Nat) (A0 : Option Addr) (c0 : Nat) (l0 : List Int) (r1 r2 r3 r4 r5 : Int) (r6 : List ByteArray) (r7 : List S52) (r8 : Int) (w : World) (hLd : Laid w)
  (hr0 : Kd.C (Kd.int .u8) w A0 l0.length l0) (hc0 : l0.length ≤ c0) (h : frame_Decode.f K l0 = some (r1, r2, r3, r4, r5, r6, r7, r8)) :
  Calls Tryd.prog 15 #[.slice A0 l0.length c0] w fun e w' => ∃ v0 v1, e = .returned (.tuple #[.agg #[.int .i64 r1, .int .i64 r2, .int .i64 r3, .int .i64 r4, .int .i64 r5, v0, v1], .int .i64 r8]) ∧ Kd.R Kd.string 9 w' w.heap.size (fun _ => True) v0 r6 ∧ Kd.R k52 52 w' w.heap.size (fun _ => True) v1 r7 ∧ Below w.heap.size w w' := by
 have HL := Lib.hid hLd
 have HR0 := Lib.hid hr0
 clear hLd hr0
 have hbig := Kd.C_max HR0.out
 go_enter Tryd.func15, Tryd.ntmps15
 go_wp2_with fail
 have HBQ : Hid ((w.alloc (Obj.cells #[.int .i64 0, .int .i64 0, .int .i64 0, .int .i64 0, .int .i64 0, .slice none 0 0, .slice none 0 0] 31)).heap[w.heap.size]? = some (.cells zF 31 (0, 0))) := Lib.hid (heap_alloc_new _ _)
 have HB0 : Hid (Below w.heap.size w (w.alloc (Obj.cells #[.int .i64 0, .int .i64 0, .int .i64 0, .int .i64 0, .int .i64 0, .slice none 0 0, .slice none 0 0] 31))) := Lib.hid (below_alloc (Below.refl _ _) _)
 generalize w.alloc (Obj.cells #[.int .i64 0, .int .i64 0, .int .i64 0, .int .i64 0, .int .i64 0, .slice none 0 0, .slice none 0 0] 31) = W0 at HBQ HB0 ⊢
 by_cases h4 : l0.length < 4
 ·rw [frame_Decode.f, if_pos h4] at h
  simp only [Option.some.injEq, Prod.mk.injEq] at h
  obtain ⟨rfl, rfl, rfl, rfl, rfl, rfl, rfl, rfl⟩ := h
  have c1 : decide ((l0.length : Int) - 4 < 0) = true := decide_eq_true (by omega)
  go_quiet (fail)
  go_wp2_with (first
   | (refine wpList_store_row rfl _ _ _ rfl w.heap.size #[.int .i64 0, .int .i64 0, .int .i64 0, .int .i64 0, .int .i64 0, .slice none 0 0, .slice none 0 0] rfl rfl 31 zF HBQ.out (by kernel_rfl) (by kernel_rfl) (by kernel_rfl) ?_))
  refine bodyPost_ret (dec_ret _ _ w.heap.size _ 12 rfl rfl (dec_row HBQ.out) rfl) rfl ?_
  exact ⟨_, _, rfl, Kd.R_nil _ _ _ _ _, Kd.R_nil _ _ _ _ _, below_setRow (pw_below_drewN HB0.out _) (Nat.le_refl _) _⟩
 ·rw [frame_Decode.f, if_neg h4] at h
  obtain ⟨n, hn⟩ : ∃ n, l0.length = n + 4 := ⟨l0.length - 4, by omega⟩
  have hn' : l0.length - 4 = n := by omega
  rw [hn'] at h
  replace h := Option.bind_eq_some_iff.mp h
  obtain ⟨sm, hsm, h⟩ := h
  have HSR := Lib.hid (frame_Sum.range hsm)
  obtain ⟨ad, rfl, -⟩ := Kd.at_int HR0.out 0 (by omega) (by omega)
  have hl1 : (l0.take n).length = n := by rw [List.length_take]; omega
  have hl2 : (l0.drop n).length = 4 := by rw [List.length_drop]; omega
  have hC1 := Kd.C_take HR0.out (m := n) (by omega)
  have hC2 := Kd.C_drop HR0.out (m := n) (c := c0) (by omega) hc0
  rw [if_neg (by omega : ¬ c0 = n)] at hC2
  have H := Lib.hid h
  clear h
  obtain ⟨l1, hl1e⟩ : ∃ l1, l0.take n = l1 := ⟨_, rfl⟩
  obtain ⟨l2, hl2e⟩ : ∃ l2, l0.drop n = l2 := ⟨_, rfl⟩
  rw [hl1e] at hsm hC1 hl1 H
  rw [hl2e] at hC2 hl2 H
  obtain ⟨ad2, had2⟩ : ∃ ad2, ad.add n = ad2 := ⟨_, rfl⟩
  have HC1 : Hid (Calls Tryd.prog 11 #[.slice (some ad) n c0] W0.drew fun e w' => e = .returned (.int .u16 sm) ∧ Below W0.drew.heap.size W0.drew w') :=
   Lib.hid (Sum_n (some ad) l1 n c0 () sm W0.drew hl1 (Kd.C_below (Kd.C_below hC1 HB0.out) (below_drew1 (Below.refl _ _))) (by omega) hsm)
  obtain ⟨d2, o2, f2⟩ := ad2
  obtain ⟨b0, b1, b2, b3, rfl⟩ : ∃ b0 b1 b2 b3, l2 = [b0, b1, b2, b3] := by
   match l2, hl2 with
   | [b0, b1, b2, b3], _ => exact ⟨b0, b1, b2, b3, rfl⟩
  have HCELL : Hid (∀ W, Below W0.heap.size W0 W → W.cell? ⟨d2, o2, f2⟩ = some (.int .u8 b0) ∧ W.cell? ⟨d2, o2 + 1, none⟩ = some (.int .u8 b1) ∧ W.cell? ⟨d2, o2 + 2, none⟩ = some (.int .u8 b2) ∧ W.cell? ⟨d2, o2 + 3, none⟩ = some (.int .u8 b3)) := Lib.hid (by
   intro W hW
   have hc := Kd.C_below (Kd.C_below hC2 HB0.out) hW
   rw [Option.map_some, show ad.add (n * (Kd.int .u8).sz) = ad.add n from by rw [show (Kd.int .u8).sz = 1 from rfl, Nat.mul_one], had2] at hc
   refine ⟨?_, ?_, ?_, ?_⟩
   ·obtain ⟨ax, hx, hcx⟩ := Kd.at_int hc 0 (by omega) (by simp)
    injection hx with hx; subst hx; simpa [Addr.add, rd] using hcx
   ·obtain ⟨ax, hx, hcx⟩ := Kd.at_int hc 1 (by omega) (by simp)
    injection hx with hx; subst hx; simpa [Addr.add, rd] using hcx
   ·obtain ⟨ax, hx, hcx⟩ := Kd.at_int hc 2 (by omega) (by simp)
    injection hx with hx; subst hx; simpa [Addr.add, rd] using hcx
   ·obtain ⟨ax, hx, hcx⟩ := Kd.at_int hc 3 (by omega) (by simp)
    injection hx with hx; subst hx; simpa [Addr.add, rd] using hcx)
  have hAT : ∀ W, (Instr.arrayAt 63 (.slice (some ⟨d2, o2, f2⟩) 4 (c0 - n))).run Tryd.prog W = .ok (.pointer (some ⟨d2, o2, f2⟩)) W := fun W => arr_at W _ _
  have HC0 := Lib.hid hC1
  clear hC1 hC2 hsm
  obtain ⟨q, hqe, hEQ⟩ : ∃ q : Bool, (q = true ↔ digs sm = [b0, b1, b2, b3]) ∧ ∀ W, (Op.equalIn 10000 63 (.agg #[.int .u8 (dgt (sm / 4096)), .int .u8 (dgt (sm / 256)), .int .u8 (dgt (sm / 16)), .int .u8 (dgt sm)]) (.agg #[.int .u8 b0, .int .u8 b1, .int .u8 b2, .int .u8 b3])).run Tryd.prog W = .ok q W :=
   ⟨_, by simp [digs], fun W => arr_eq4 W _ _ _ _ _ _ _ _⟩
  have HQE := Lib.hid hqe
  clear hqe
  have c1 : decide ((l0.length : Int) - 4 < 0) = false := decide_eq_false (by omega)
  have c2 : (l0.length : Int) - 4 = (n : Int) := by omega
  have c3 := eq_true (show n ≤ c0 from by omega)
  have c4 := eq_true (show (n : Int) ≤ (n : Int) + 4 from by omega)
  have c5 := eq_false (show ¬ c0 = n from by omega)
  have c6 := decide_eq_false (show ¬ (n : Int) < 0 from by omega)
  have c7 := eq_false (show ¬ (n : Int) < 0 from by omega)
  go_wp2_with fail
  refine start_ (n := 15) (S := fun w' => w'.cell? ⟨d2, o2, f2⟩ = some (.int .u8 b0) ∧ w'.cell? ⟨d2, o2 + 1, none⟩ = some (.int .u8 b1) ∧ w'.cell? ⟨d2, o2 + 2, none⟩ = some (.int .u8 b2) ∧ w'.cell? ⟨d2, o2 + 3, none⟩ = some (.int .u8 b3)) (ds := []) #[false, false, false, false, false, false, false, false, false, false, false, false, false, false, false] (by kernel_rfl) rfl rfl ⟨(HCELL.out W0 (Below.refl _ _)).1, (HCELL.out W0 (Below.refl _ _)).2.1, (HCELL.out W0 (Below.refl _ _)).2.2.1, (HCELL.out W0 (Below.refl _ _)).2.2.2⟩ (fun hHeld => ?_)
  refine pure_ (i := 0) (N := some 13) (v := ?_) (a' := ?_) #[true, false, false, false, false, false, false, false, false, false, false, false, false, false, false] rfl rfl (by kernel_rfl) (fun _ _ _ h => h) (Or.inl ⟨by rfl, ?_⟩) ?_ ?_
  rotate_left
  ·intro w'
   go_simp
   with_reducible rfl
  rotate_left
  ·simp only [Act.put, sA_, sB_, sC_, i64_w, i32_w]
   rfl
  refine pure_ (i := 1) (N := some 14) (v := ?_) (a' := ?_) #[true, true, false, false, false, false, false, false, false, false, false, false, false, false, false] rfl rfl (by kernel_rfl) (fun _ _ _ h => h) (Or.inl ⟨by rfl, ?_⟩) ?_ ?_
  rotate_left
  ·intro w'
   go_simp
   with_reducible rfl
  rotate_left
  ·simp only [Act.put, sA_, sB_, sC_, i64_w, i32_w]
   rfl
  refine pure_ (i := 2) (N := some 15) (v := ?_) (a' := ?_) #[true, true, true, false, false, false, false, false, false, false, false, false, false, false, false] rfl rfl (by kernel_rfl) (fun _ _ _ h => h) (Or.inl ⟨by rfl, ?_⟩) ?_ ?_
  rotate_left
  ·intro w'
   go_simp
   with_reducible rfl
  rotate_left
  ·simp only [Act.put, sA_, sB_, sC_, i64_w, i32_w]
   rfl
  refine pure_ (i := 3) (N := some 16) (v := ?_) (a' := ?_) #[true, true, true, true, false, false, false, false, false, false, false, false, false, false, false] rfl rfl (by kernel_rfl) (fun _ _ _ h => h) (Or.inl ⟨by rfl, ?_⟩) ?_ ?_
  rotate_left
  ·intro w'
   go_simp
   with_reducible rfl
  rotate_left
  ·simp only [Act.put, sA_, sB_, sC_, i64_w, i32_w]
   rfl
  refine pure_ (i := 4) (N := some 17) (v := ?_) (a' := ?_) #[true, true, true, true, true, false, false, false, false, false, false, false, false, false, false] rfl rfl (by kernel_rfl) (fun _ _ _ h => h) (Or.inl ⟨by rfl, ?_⟩) ?_ ?_
  rotate_left
  ·intro w'
   go_simp
   with_reducible rfl
  rotate_left
  ·simp only [Act.put, sA_, sB_, sC_, i64_w, i32_w]
   rfl
  refine pure_ (i := 5) (N := some 18) (v := ?_) (a' := ?_) #[true, true, true, true, true, true, false, false, false, false, false, false, false, false, false] rfl rfl (by kernel_rfl) (fun _ _ _ h => h) (Or.inl ⟨by rfl, ?_⟩) ?_ ?_
  rotate_left
  ·intro w'
   go_simp
   with_reducible rfl
  rotate_left
  ·simp only [Act.put, sA_, sB_, sC_, i64_w, i32_w]
   rfl
  refine pure_ (i := 8) (N := some 21) (v := ?_) (a' := ?_) #[true, true, true, true, true, true, false, false, true, false, false, false, false, false, false] rfl rfl (by kernel_rfl) (fun _ _ _ h => h) (Or.inl ⟨by rfl, ?_⟩) ?_ ?_
  rotate_left
  ·intro w'
   go_simp
   with_reducible rfl
  rotate_left
  ·simp only [Act.put, sA_, sB_, sC_, i64_w, i32_w]
   rfl
  refine pure_ (i := 9) (N := some 22) (v := ?_) (a' := ?_) #[true, true, true, true, true, true, false, false, true, true, false, false, false, false, false] rfl rfl (by kernel_rfl) (fun _ _ _ h => h) (Or.inl ⟨by rfl, ?_⟩) ?_ ?_
  rotate_left
  ·intro w'
   go_simp
   with_reducible rfl
  rotate_left
  ·simp only [Act.put, sA_, sB_, sC_, i64_w, i32_w]
   rfl
  refine pure_ (i := 10) (N := some 23) (v := ?_) (a' := ?_) #[true, true, true, true, true, true, false, false, true, true, true, false, false, false, false] rfl rfl (by kernel_rfl) (fun _ _ _ h => h) (Or.inl ⟨by rfl, ?_⟩) ?_ ?_
  rotate_left
  ·intro w'
   go_simp
   with_reducible rfl
  rotate_left
  ·simp only [Act.put, sA_, sB_, sC_, i64_w, i32_w]
   rfl
  refine pure_ (i := 11) (N := some 24) (v := ?_) (a' := ?_) #[true, true, true, true, true, true, false, false, true, true, true, true, false, false, false] rfl rfl (by kernel_rfl) (fun _ _ _ h => h) (Or.inl ⟨by rfl, ?_⟩) ?_ ?_
  rotate_left
  ·intro w'
   go_simp
   with_reducible rfl
  rotate_left
  ·simp only [Act.put, sA_, sB_, sC_, i64_w, i32_w]
   rfl
  refine take_ (i := 12) (N := some 25) (v := ?_) (a' := ?_) #[true, true, true, true, true, true, false, false, true, true, true, true, true, false, false] rfl rfl (by kernel_rfl) (fun _ _ _ h => h) (Or.inl ⟨by rfl, ?_⟩) hHeld ?_ ?_
  rotate_left
  ·rintro w' ⟨s0, s1, s2, s3⟩
   go_simp
   with_reducible rfl
  rotate_left
  ·simp only [Act.put, sA_, sB_, sC_, i64_w, i32_w]
   rfl
  refine one_ (i := 6) (N := some 19) #[true, true, true, true, true, true, true, false, true, true, true, true, true, false, false] rfl rfl (by kernel_rfl) (by decide) (fun K hK => ?_)
  refine goes_ Tryd.func11 (by kernel_rfl) rfl #[.slice (some ad) n c0] (by rfl) rfl rfl (by simp only [List.map_toArray, List.map_cons, List.map_nil]; rfl) ?_
  with_reducible refine (HC1.out).mono ?_
  rintro e w3 ⟨rfl, hb⟩
  refine ⟨_, rfl, ?_⟩
  have HR3 := Lib.hid (show Below W0.heap.size W0 w3 from ⟨hb.os, hb.tape, hb.output, hb.size, hb.block⟩)
  clear hb
  refine hK.out _ _ ⟨(HCELL.out w3 HR3.out).1, (HCELL.out w3 HR3.out).2.1, (HCELL.out w3 HR3.out).2.2.1, (HCELL.out w3 HR3.out).2.2.2⟩ (fun hHeld => ?_)
  clear hK K
  refine norm_ (a' := ?_) ?_ ?_
  rotate_left
  ·show Act.put _ (some 19) _ = _
   simp only [Act.put, sA_, sB_, sC_, i64_w, i32_w]
   rfl
  refine one_ (i := 7) (N := some 20) #[true, true, true, true, true, true, true, true, true, true, true, true, true, false, false] rfl rfl (by kernel_rfl) (by decide) (fun K hK => ?_)
  refine goes_ Tryd.func34 (by kernel_rfl) rfl #[.int .u16 sm] (by rfl) rfl rfl (by simp only [List.map_toArray, List.map_cons, List.map_nil]; rfl) ?_
  with_reducible refine (digits_calls sm HSR.out.1 HSR.out.2 _).mono ?_
  rintro e w4 ⟨rfl, hb⟩
  refine ⟨_, rfl, ?_⟩
  have HR4 := Lib.hid (show Below w3.heap.size w3 w4 from ⟨hb.os, hb.tape, hb.output, hb.size, hb.block⟩)
  clear hb
  refine hK.out _ _ ⟨(HCELL.out w4 (HR3.out.trans (HR4.out.mono HR3.out.size))).1, (HCELL.out w4 (HR3.out.trans (HR4.out.mono HR3.out.size))).2.1, (HCELL.out w4 (HR3.out.trans (HR4.out.mono HR3.out.size))).2.2.1, (HCELL.out w4 (HR3.out.trans (HR4.out.mono HR3.out.size))).2.2.2⟩ (fun hHeld => ?_)
  clear hK K
  refine norm_ (a' := ?_) ?_ ?_
  rotate_left
  ·show Act.put _ (some 20) _ = _
   simp only [Act.put, sA_, sB_, sC_, i64_w, i32_w]
   rfl
  refine pure_ (i := 13) (N := some 26) (v := ?_) (a' := ?_) #[true, true, true, true, true, true, true, true, true, true, true, true, true, true, false] rfl rfl (by kernel_rfl) (fun _ _ _ h => h) (Or.inl ⟨by rfl, ?_⟩) ?_ ?_
  rotate_left
  ·intro w'
   go_simp
   with_reducible rfl
  rotate_left
  ·simp only [Act.put, sA_, sB_, sC_, i64_w, i32_w]
   rfl
  refine pure_ (i := 14) (N := some 27) (v := ?_) (a' := ?_) #[true, true, true, true, true, true, true, true, true, true, true, true, true, true, true] rfl rfl (by kernel_rfl) (fun _ _ _ h => h) (Or.inl ⟨by rfl, ?_⟩) ?_ ?_
  rotate_left
  ·intro w'
   go_simp
   with_reducible rfl
  rotate_left
  ·simp only [Act.put, sA_, sB_, sC_, i64_w, i32_w]
   rfl
  refine done_ (by kernel_rfl) ?_
  have HB4 : Hid (Below w.heap.size w w4) := Lib.hid (HB0.out.trans ((HR3.out.trans (HR4.out.mono HR3.out.size)).mono HB0.out.size))
  have HBQ4 : Hid (w4.heap[w.heap.size]? = some (.cells zF 31 (0, 0))) := Lib.hid (((HR3.out.trans (HR4.out.mono HR3.out.size)).block _ (blk_lt HBQ.out)).trans HBQ.out)
  have HC4 : Hid (Kd.C (Kd.int .u8) w4 (some ad) l1.length l1) := Lib.hid (Kd.C_below HC0.out HB4.out)
  clear hHeld HC1 HC0 HCELL hAT hEQ HBQ HR3 HR4
  cases q
  ·have hne : ¬ digs sm = [b0, b1, b2, b3] := fun he => by have := HQE.out.2 he; simp at this
   have h := H.out
   rw [if_neg hne] at h
   simp only [Option.some.injEq, Prod.mk.injEq] at h
   obtain ⟨rfl, rfl, rfl, rfl, rfl, rfl, rfl, rfl⟩ := h
   go_wp2_with (first
    | (refine wpList_store_row rfl _ _ _ rfl w.heap.size #[.int .i64 0, .int .i64 0, .int .i64 0, .int .i64 0, .int .i64 0, .slice none 0 0, .slice none 0 0] rfl rfl 31 zF HBQ4.out (by kernel_rfl) (by kernel_rfl) (by kernel_rfl) ?_))
   refine bodyPost_ret (dec_ret _ _ w.heap.size _ 12 rfl rfl (dec_row HBQ4.out) rfl) rfl ?_
   exact ⟨_, _, rfl, Kd.R_nil _ _ _ _ _, Kd.R_nil _ _ _ _ _, below_setRow HB4.out (Nat.le_refl _) _⟩
  ·have h := H.out
   rw [if_pos (HQE.out.1 rfl)] at h
   clear H HQE
   have H := Lib.hid h
   clear h
   obtain ⟨str, hstr⟩ : ∃ str, strOfNums l1 = str := ⟨_, rfl⟩
   rw [hstr] at H
   have HBF : Hid ((w4.alloc (Obj.cells #[.int .i64 0, .int .i64 0, .int .i64 0, .int .i64 0, .int .i64 0, .slice none 0 0, .slice none 0 0] 31)).heap[w4.heap.size]? = some (.cells zF 31 (0, 0))) := Lib.hid (heap_alloc_new _ _)
   have HB5 : Hid (Below w.heap.size w (w4.alloc (Obj.cells #[.int .i64 0, .int .i64 0, .int .i64 0, .int .i64 0, .int .i64 0, .slice none 0 0, .slice none 0 0] 31))) := Lib.hid (below_alloc HB4.out _)
   have HBQ5 : Hid ((w4.alloc (Obj.cells #[.int .i64 0, .int .i64 0, .int .i64 0, .int .i64 0, .int .i64 0, .slice none 0 0, .slice none 0 0] 31)).heap[w.heap.size]? = some (.cells zF 31 (0, 0))) := Lib.hid (((below_alloc (Below.refl _ _) _).block _ (blk_lt HBQ4.out)).trans HBQ4.out)
   have hCV : (convert 22 9 (.slice (some ad) n c0)).run Tryd.prog (w4.alloc (Obj.cells #[.int .i64 0, .int .i64 0, .int .i64 0, .int .i64 0, .int .i64 0, .slice none 0 0, .slice none 0 0] 31)) = .ok (.string str) (w4.alloc (Obj.cells #[.int .i64 0, .int .i64 0, .int .i64 0, .int .i64 0, .int .i64 0, .slice none 0 0, .slice none 0 0] 31)) := by
    rw [← hstr, ← hl1]
    exact Kd.C_string Tryd.underlying22 Tryd.underlying5 Tryd.underlying9 (Kd.C_below HC4.out (below_alloc (Below.refl _ _) _))
   obtain ⟨W5, hW5⟩ : ∃ W5, w4.alloc (Obj.cells #[.int .i64 0, .int .i64 0, .int .i64 0, .int .i64 0, .int .i64 0, .slice none 0 0, .slice none 0 0] 31) = W5 := ⟨_, rfl⟩
   have HGF : Hid (w.heap.size ≤ w4.heap.size) := Lib.hid HB4.out.size
   have HGN : Hid (w4.heap.size ≠ w.heap.size) := Lib.hid (by have := blk_lt HBQ4.out; omega)
   rw [hW5] at HBF HB5 HBQ5 hCV
   go_wp2_with fail
   generalize w4.heap.size = gf at HBF HGF HGN ⊢
   clear hW5 hCV HB4 HBQ4 HC4
   have h := H.out
   unfold decBody at h
   clear H
   refine (encode_NewReader.calls str str 0 0 0 w W5 HB5.out rfl).mono ?_
   rintro e w6 ⟨gr, rfl, hI6, hB6, hb6⟩
   have HD6 : Hid (DS w (fun _ => True) gf gr (str, 0, 0, 0) 0 0 0 0 0 (.slice none 0 0) [] (.slice none 0 0) [] w6) := Lib.hid ⟨hI6, hB6, (hb6.block _ (blk_lt HBF.out)).trans HBF.out, (hb6.block _ (blk_lt HBQ5.out)).trans HBQ5.out, by have := HGF.out; have := HGN.out; omega, Kd.R_nil _ _ _ _ _, Kd.R_nil _ _ _ _ _⟩
   clear hI6 hB6 hb6 HBF HBQ5 HB5
   replace h := Option.bind_eq_some_iff.mp h
   obtain ⟨t0, ht, h⟩ := h
   have T := Lib.hid ht
   clear ht
   have H := Lib.hid h
   clear h
   go_wp2_with fail
   refine (HD6.out.open_ T.out).mono ?_
   rintro e w7 ⟨rfl, hd, hk⟩
   have HD7 := Lib.hid hd
   clear hd hk HD6 T
   have h := H.out
   clear H
   have ix0 : ∀ W, (Instr.index 68 (.agg #[.pointer (some ⟨gf, 0, none⟩), .pointer (some ⟨gf, 1, none⟩), .pointer (some ⟨gf, 2, none⟩), .pointer (some ⟨gf, 3, none⟩), .pointer (some ⟨gf, 4, none⟩)]) (.int .i64 0)).run Tryd.prog W = .ok (.pointer (some ⟨gf, 0, none⟩)) W := fun _ => by kernel_rfl
   have ix1 : ∀ W, (Instr.index 68 (.agg #[.pointer (some ⟨gf, 0, none⟩), .pointer (some ⟨gf, 1, none⟩), .pointer (some ⟨gf, 2, none⟩), .pointer (some ⟨gf, 3, none⟩), .pointer (some ⟨gf, 4, none⟩)]) (.int .i64 1)).run Tryd.prog W = .ok (.pointer (some ⟨gf, 1, none⟩)) W := fun _ => by kernel_rfl
   have ix2 : ∀ W, (Instr.index 68 (.agg #[.pointer (some ⟨gf, 0, none⟩), .pointer (some ⟨gf, 1, none⟩), .pointer (some ⟨gf, 2, none⟩), .pointer (some ⟨gf, 3, none⟩), .pointer (some ⟨gf, 4, none⟩)]) (.int .i64 2)).run Tryd.prog W = .ok (.pointer (some ⟨gf, 2, none⟩)) W := fun _ => by kernel_rfl
   have ix3 : ∀ W, (Instr.index 68 (.agg #[.pointer (some ⟨gf, 0, none⟩), .pointer (some ⟨gf, 1, none⟩), .pointer (some ⟨gf, 2, none⟩), .pointer (some ⟨gf, 3, none⟩), .pointer (some ⟨gf, 4, none⟩)]) (.int .i64 3)).run Tryd.prog W = .ok (.pointer (some ⟨gf, 3, none⟩)) W := fun _ => by kernel_rfl
   have ix4 : ∀ W, (Instr.index 68 (.agg #[.pointer (some ⟨gf, 0, none⟩), .pointer (some ⟨gf, 1, none⟩), .pointer (some ⟨gf, 2, none⟩), .pointer (some ⟨gf, 3, none⟩), .pointer (some ⟨gf, 4, none⟩)]) (.int .i64 4)).run Tryd.prog W = .ok (.pointer (some ⟨gf, 4, none⟩)) W := fun _ => by kernel_rfl
   go_wp2_with fail
   refine wp_loop_rounds 6 ?_
   rw [rounds_succ]
   replace h := Option.bind_eq_some_iff.mp h
   obtain ⟨⟨v0, s0⟩, ht, h⟩ := h
   have T := Lib.hid ht
   clear ht
   have H := Lib.hid h
   clear h
   go_wp2_with fail
   refine (HD7.out.int_ HL.out T.out).mono ?_
   rintro e w8 ⟨rfl, hd, hk⟩
   have HD8 := Lib.hid hd
   clear hd hk HD7 T
   have h := H.out
   clear H
   have x0 : w8.cell? ⟨gf, 0, none⟩ = some (.int .i64 0) := (blk_cell HD8.out.hF 0).trans rfl
   have f0 : w8.frozen? ⟨gf, 0, none⟩ = false := blk_frozen HD8.out.hF 0
   go_wp2_with fail
   rw [rounds_succ]
   clear x0 f0
   have HD9 := Lib.hid (HD8.out.set0 v0)
   clear HD8
   generalize w8.setCell ⟨gf, 0, none⟩ (.int .i64 v0) = w9 at HD9 ⊢
   replace h := Option.bind_eq_some_iff.mp h
   obtain ⟨⟨v1, s1⟩, ht, h⟩ := h
   have T := Lib.hid ht
   clear ht
   have H := Lib.hid h
   clear h
   go_wp2_with fail
   refine (HD9.out.int_ HL.out T.out).mono ?_
   rintro e w10 ⟨rfl, hd, hk⟩
   have HD10 := Lib.hid hd
   clear hd hk HD9 T
   have h := H.out
   clear H
   have x1 : w10.cell? ⟨gf, 1, none⟩ = some (.int .i64 0) := (blk_cell HD10.out.hF 1).trans rfl
   have f1 : w10.frozen? ⟨gf, 1, none⟩ = false := blk_frozen HD10.out.hF 1
   go_wp2_with fail
   rw [rounds_succ]
   clear x1 f1
   have HD11 := Lib.hid (HD10.out.set1 v1)
   clear HD10
   generalize w10.setCell ⟨gf, 1, none⟩ (.int .i64 v1) = w11 at HD11 ⊢
   replace h := Option.bind_eq_some_iff.mp h
   obtain ⟨⟨v2, s2⟩, ht, h⟩ := h
   have T := Lib.hid ht
   clear ht
   have H := Lib.hid h
   clear h
   go_wp2_with fail
   refine (HD11.out.int_ HL.out T.out).mono ?_
   rintro e w12 ⟨rfl, hd, hk⟩
   have HD12 := Lib.hid hd
   clear hd hk HD11 T
   have h := H.out
   clear H
   have x2 : w12.cell? ⟨gf, 2, none⟩ = some (.int .i64 0) := (blk_cell HD12.out.hF 2).trans rfl
   have f2 : w12.frozen? ⟨gf, 2, none⟩ = false := blk_frozen HD12.out.hF 2
   go_wp2_with fail
   rw [rounds_succ]
   clear x2 f2
   have HD13 := Lib.hid (HD12.out.set2 v2)
   clear HD12
   generalize w12.setCell ⟨gf, 2, none⟩ (.int .i64 v2) = w13 at HD13 ⊢
   replace h := Option.bind_eq_some_iff.mp h
   obtain ⟨⟨v3, s3⟩, ht, h⟩ := h
   have T := Lib.hid ht
   clear ht
   have H := Lib.hid h
   clear h
   go_wp2_with fail
   refine (HD13.out.int_ HL.out T.out).mono ?_
   rintro e w14 ⟨rfl, hd, hk⟩
   have HD14 := Lib.hid hd
   clear hd hk HD13 T
   have h := H.out
   clear H
   have x3 : w14.cell? ⟨gf, 3, none⟩ = some (.int .i64 0) := (blk_cell HD14.out.hF 3).trans rfl
   have f3 : w14.frozen? ⟨gf, 3, none⟩ = false := blk_frozen HD14.out.hF 3
   go_wp2_with fail
   rw [rounds_succ]
   clear x3 f3
   have HD15 := Lib.hid (HD14.out.set3 v3)
   clear HD14
   generalize w14.setCell ⟨gf, 3, none⟩ (.int .i64 v3) = w15 at HD15 ⊢
   replace h := Option.bind_eq_some_iff.mp h
   obtain ⟨⟨v4, s4⟩, ht, h⟩ := h
   have T := Lib.hid ht
   clear ht
   have H := Lib.hid h
   clear h
   go_wp2_with fail
   refine (HD15.out.int_ HL.out T.out).mono ?_
   rintro e w16 ⟨rfl, hd, hk⟩
   have HD16 := Lib.hid hd
   clear hd hk HD15 T
   have h := H.out
   clear H
   have x4 : w16.cell? ⟨gf, 4, none⟩ = some (.int .i64 0) := (blk_cell HD16.out.hF 4).trans rfl
   have f4 : w16.frozen? ⟨gf, 4, none⟩ = false := blk_frozen HD16.out.hF 4
   go_wp2_with fail
   rw [rounds_succ]
   clear x4 f4
   have HD17 := Lib.hid (HD16.out.set4 v4)
   clear HD16
   generalize w16.setCell ⟨gf, 4, none⟩ (.int .i64 v4) = w17 at HD17 ⊢
   replace h := Option.bind_eq_some_iff.mp h
   obtain ⟨⟨l5, s5⟩, ht, h⟩ := h
   have T := Lib.hid ht
   clear ht
   have H := Lib.hid h
   clear h
   go_wp2_with fail
   refine (HD17.out.lines HL.out T.out).mono ?_
   rintro e w18 ⟨vL, rfl, hr, hd, hk⟩
   have HD18 := Lib.hid hd
   have HRL0 := hr
   obtain ⟨AL, cL, rfl, -, -⟩ := Kd.R_reads hr
   have HRL := Lib.hid HRL0
   clear hr HRL0
   clear hd hk HD17 T
   have h := H.out
   clear H
   have x5 : w18.cell? ⟨gf, 5, none⟩ = some (.slice none 0 0) := (blk_cell HD18.out.hF 5).trans rfl
   have f5 : w18.frozen? ⟨gf, 5, none⟩ = false := blk_frozen HD18.out.hF 5
   go_wp2_with fail
   clear x5 f5
   have HD19 := Lib.hid (HD18.out.setL HRL.out)
   clear HD18 HRL
   generalize w18.setCell ⟨gf, 5, none⟩ (.slice AL l5.length cL) = w19 at HD19 ⊢
   replace h := Option.bind_eq_some_iff.mp h
   obtain ⟨s6, ht, h⟩ := h
   have T := Lib.hid ht
   clear ht
   have H := Lib.hid h
   clear h
   go_wp2_with fail
   refine (HD19.out.open_ T.out).mono ?_
   rintro e w20 ⟨rfl, hd, hk⟩
   have HD20 := Lib.hid hd
   clear hd hk HD19 T
   have h := H.out
   clear H
   replace h := Option.bind_eq_some_iff.mp h
   obtain ⟨⟨es, s7⟩, ht, h⟩ := h
   have T := Lib.hid ht
   clear ht
   have H := Lib.hid h
   clear h
   go_wp2_with fail
   try simp only [Act.put, sA_, sB_, sC_, i64_w, i32_w]
   go_loopg [9] K (fun kq v9 w' => ∃ (es1 : List S52) (t1 : St) (ve : Value), Hid (edLoop K kq es1 t1 = some (es, s7)) ∧ Hid (kq ≤ K) ∧ Hid (DS w (fun _ => True) gf gr t1 v0 v1 v2 v3 v4 (.slice AL l5.length cL) l5 ve es1 w'))
   case atStart => exact ⟨[], s6, _, Lib.hid T.out, Lib.hid (Nat.le_refl _), Lib.hid HD20.out⟩
   case round =>
    clear T
    obtain ⟨es1, t1, ve, HA, HK1, HD⟩ := hrel
    cases gk with
    | zero => exact absurd HA.out (by simp [edLoop])
    | succ k1 =>
     have h2 := HA.out
     clear HA
     simp only [edLoop] at h2
     replace h2 := Option.bind_eq_some_iff.mp h2
     obtain ⟨⟨b, t2⟩, hm, h2⟩ := h2
     have T2 := Lib.hid hm
     clear hm
     by_cases hb : b = true
     ·subst hb
      simp only [if_true] at h2
      replace h2 := Option.bind_eq_some_iff.mp h2
      obtain ⟨⟨er, t3⟩, hm, h2⟩ := h2
      have T3 := Lib.hid hm
      clear hm
      by_cases her : er = 0
      ·subst her
       simp only [if_true] at h2
       replace h2 := Option.bind_eq_some_iff.mp h2
       obtain ⟨⟨x, t4⟩, hm, h2⟩ := h2
       unfold rdEdit at hm
       replace hm := Option.bind_eq_some_iff.mp hm
       obtain ⟨u0, hu, hm⟩ := hm
       have U0 := Lib.hid hu
       clear hu
       replace hm := Option.bind_eq_some_iff.mp hm
       obtain ⟨⟨x0, u1⟩, hu, hm⟩ := hm
       have U1 := Lib.hid hu
       clear hu
       replace hm := Option.bind_eq_some_iff.mp hm
       obtain ⟨⟨x1, u2⟩, hu, hm⟩ := hm
       have U2 := Lib.hid hu
       clear hu
       replace hm := Option.bind_eq_some_iff.mp hm
       obtain ⟨⟨lx, u3⟩, hu, hm⟩ := hm
       have U3 := Lib.hid hu
       clear hu
       replace hm := Option.bind_eq_some_iff.mp hm
       obtain ⟨u4, hu, hm⟩ := hm
       have U4 := Lib.hid hu
       clear hu
       simp only [Option.some.injEq, Prod.mk.injEq] at hm
       obtain ⟨rfl, rfl⟩ := hm
       by_cases hlt : es1.length < 1000000000000
       ·rw [if_pos hlt] at h2
        have HLT := Lib.hid hlt
        have H2 := Lib.hid h2
        clear h2 hlt
        go_wp2_with fail
        refine (HD.out.more T2.out).mono ?_
        rintro e wm1 ⟨rfl, hd, hk⟩
        have HD2 := Lib.hid hd
        clear hd hk HD
        go_wp2_with fail
        refine (HD2.out.err T3.out).mono ?_
        rintro e wm2 ⟨rfl, hd, hk⟩
        have HD3 := Lib.hid hd
        clear hd hk HD2
        go_wp2_with fail
        have HD4 := Lib.hid (HD3.out.allocX (Obj.cells #[.int .i64 0, .int .i64 0, .slice none 0 0] 52))
        have HX4 : Hid (DX w wm2.heap.size 0 0 (.slice none 0 0) [] (wm2.alloc (Obj.cells #[.int .i64 0, .int .i64 0, .slice none 0 0] 52))) := Lib.hid ⟨heap_alloc_new _ _, Kd.R_nil _ _ _ _ _, HD3.out.hB.size⟩
        generalize wm2.alloc (Obj.cells #[.int .i64 0, .int .i64 0, .slice none 0 0] 52) = wm4 at HD4 HX4 ⊢
        clear HD3
        generalize wm2.heap.size = gx at HD4 HX4 ⊢
        refine (HD4.out.open_ U0.out).mono ?_
        rintro e wm5 ⟨rfl, hd, hk⟩
        have HD5 := Lib.hid hd
        have HX5 := Lib.hid (HX4.out.keep HD4.out hk)
        clear hd hk HD4 HX4
        go_wp2_with fail
        refine (HD5.out.int_ HL.out U1.out).mono ?_
        rintro e wm6 ⟨rfl, hd, hk⟩
        have HD6 := Lib.hid hd
        have HX6 := Lib.hid (HX5.out.keep HD5.out hk)
        clear hd hk HD5 HX5
        have p0 : wm6.cell? ⟨gx, 0, none⟩ = some (.int .i64 0) := (blk_cell HX6.out.hX 0).trans rfl
        have q0 : wm6.frozen? ⟨gx, 0, none⟩ = false := blk_frozen HX6.out.hX 0
        go_wp2_with fail
        clear p0 q0
        have HD7 := Lib.hid (HD6.out.setX HX6.out 0 (.int .i64 x0))
        have HX7 := Lib.hid (HX6.out.set0 x0)
        clear HD6 HX6
        generalize wm6.setCell ⟨gx, 0, none⟩ (.int .i64 x0) = wm7 at HD7 HX7 ⊢
        refine (HD7.out.int_ HL.out U2.out).mono ?_
        rintro e wm8 ⟨rfl, hd, hk⟩
        have HD8 := Lib.hid hd
        have HX8 := Lib.hid (HX7.out.keep HD7.out hk)
        clear hd hk HD7 HX7
        have p0 : wm8.cell? ⟨gx, 1, none⟩ = some (.int .i64 0) := (blk_cell HX8.out.hX 1).trans rfl
        have q0 : wm8.frozen? ⟨gx, 1, none⟩ = false := blk_frozen HX8.out.hX 1
        go_wp2_with fail
        clear p0 q0
        have HD9 := Lib.hid (HD8.out.setX HX8.out 1 (.int .i64 x1))
        have HX9 := Lib.hid (HX8.out.set1 x1)
        clear HD8 HX8
        generalize wm8.setCell ⟨gx, 1, none⟩ (.int .i64 x1) = wm9 at HD9 HX9 ⊢
        refine (HD9.out.lines HL.out U3.out).mono ?_
        rintro e wm10 ⟨vX, rfl, hr, hd, hk⟩
        have HD10 := Lib.hid hd
        have HX10 := Lib.hid (HX9.out.keep HD9.out hk)
        have HRX0 := hr
        obtain ⟨AX, cX, rfl, -, -⟩ := Kd.R_reads hr
        have HRX := Lib.hid HRX0
        clear hd hk HD9 HX9 hr HRX0
        have p0 : wm10.cell? ⟨gx, 2, none⟩ = some (.slice none 0 0) := (blk_cell HX10.out.hX 2).trans rfl
        have q0 : wm10.frozen? ⟨gx, 2, none⟩ = false := blk_frozen HX10.out.hX 2
        go_wp2_with fail
        clear p0 q0
        have HD11 := Lib.hid (HD10.out.setX HX10.out 2 (.slice AX lx.length cX))
        have HX11 := Lib.hid (HX10.out.set2 HRX.out)
        clear HD10 HX10 HRX
        generalize wm10.setCell ⟨gx, 2, none⟩ (.slice AX lx.length cX) = wm11 at HD11 HX11 ⊢
        refine (HD11.out.close U4.out).mono ?_
        rintro e wm12 ⟨rfl, hd, hk⟩
        have HD12 := Lib.hid hd
        have HX12 := Lib.hid (HX11.out.keep HD11.out hk)
        clear hd hk HD11 HX11
        have p0 : wm12.cell? ⟨gx, 0, none⟩ = some (.int .i64 x0) := (blk_cell HX12.out.hX 0).trans rfl
        have p1 : wm12.cell? ⟨gx, 1, none⟩ = some (.int .i64 x1) := (blk_cell HX12.out.hX 1).trans rfl
        have p2 : wm12.cell? ⟨gx, 2, none⟩ = some (.slice AX lx.length cX) := (blk_cell HX12.out.hX 2).trans rfl
        have p6 : wm12.cell? ⟨gf, 6, none⟩ = some ve := (blk_cell HD12.out.hF 6).trans rfl
        have HEL := Lib.hid (HD12.out.elem HX12.out)
        have HSZ : Hid (∀ k, wm12.heap.size ≤ k → k ≠ gx) := Lib.hid (fun k hk => by have := blk_lt HX12.out.hX; omega)
        go_wp2_with (first
         | ((with_reducible refine gate_builtin (b := .append) (xs := #[.tmp 76, .tmp 78]) rfl ?_); at_builtin; refine Kd.R_append k52 (w0 := w) w.heap.size rfl (.tmp 76) (.tmp 78) 29 52 (.agg #[(.int .i64 0), (.int .i64 0), (.slice none 0 0)]) 40 rfl Tryd.underlying29 info52 rfl (by decide) (by omega) ve es1 ⟨x0, x1, lx⟩ [.int .i64 x0, .int .i64 x1, .slice AX lx.length cX] (fun k => k ≠ gx) HEL.out.choose rfl rfl HEL.out.choose_spec.1 HEL.out.choose_spec.2 HSZ.out HD12.out.hE HD12.out.hB HD12.out.hB.size (by have := HLT.out; omega) ?_; intro v79 w79 ho hb hg hat; have HRV := Lib.hid ho; obtain ⟨AV, cV, rfl, -, -⟩ := Kd.R_reads ho; have HGV := Lib.hid hg; have HBV := Lib.hid hb; clear ho hb hg hat; have p7 : w79.cell? ⟨gf, 6, none⟩ = some ve := (blk_cell (HD12.out.grownF HGV.out) 6).trans rfl; have q7 : w79.frozen? ⟨gf, 6, none⟩ = false := blk_frozen (HD12.out.grownF HGV.out) 6))
        go_roundg k1
        case measure => have := HK1.out; omega
        case rel => exact ⟨_, _, _, Lib.hid H2.out, Lib.hid (by have := HK1.out; omega), Lib.hid (HD12.out.appended HGV.out HBV.out (by have := HRV.out; rw [show (es1 ++ [(⟨x0, x1, lx⟩ : S52)]).length = es1.length + 1 from by simp] at this; exact this))⟩
       ·rw [if_neg hlt] at h2
        exact absurd h2 (by simp)
      ·rw [if_neg her] at h2
       have z1 : (er == 0) = false := beq_eq_false_iff_ne.mpr her
       have z2 : (er != 0) = true := bne_iff_ne.mpr her
       simp only [Option.some.injEq, Prod.mk.injEq] at h2
       obtain ⟨rfl, rfl⟩ := h2
       go_wp2_with fail
       refine (HD.out.more T2.out).mono ?_
       rintro e wm1 ⟨rfl, hd, hk⟩
       have HD2 := Lib.hid hd
       clear hd hk
       go_wp2_with fail
       refine (HD2.out.err T3.out).mono ?_
       rintro e wm2 ⟨rfl, hd, hk⟩
       have HD3 := Lib.hid hd
       clear hd hk
       have h := H.out
       clear H
       replace h := Option.bind_eq_some_iff.mp h
       obtain ⟨t8, ht, h⟩ := h
       have T := Lib.hid ht
       clear ht
       have H := Lib.hid h
       clear h
       go_wp2_with fail
       refine (HD3.out.close T.out).mono ?_
       rintro e wt8 ⟨rfl, hd, hk⟩
       have Dt8 := Lib.hid hd
       clear hd hk  T
       have h := H.out
       clear H
       replace h := Option.bind_eq_some_iff.mp h
       obtain ⟨t9, ht, h⟩ := h
       have T := Lib.hid ht
       clear ht
       have H := Lib.hid h
       clear h
       go_wp2_with fail
       refine (Dt8.out.close T.out).mono ?_
       rintro e wt9 ⟨rfl, hd, hk⟩
       have Dt9 := Lib.hid hd
       clear hd hk Dt8 T
       have h := H.out
       clear H
       replace h := Option.bind_eq_some_iff.mp h
       obtain ⟨⟨ee, t10⟩, ht, h⟩ := h
       have T := Lib.hid ht
       clear ht
       have H := Lib.hid h
       clear h
       obtain ⟨c0b, hc0b⟩ : ∃ c0b : Bool, (ee == 0) = c0b := ⟨_, rfl⟩
       have hc1b : (ee != 0) = !c0b := by rw [bne, hc0b]
       go_wp2_with fail
       refine (Dt9.out.end_ T.out).mono ?_
       rintro e wt10 ⟨rfl, hd, hk⟩
       have Dt10 := Lib.hid hd
       clear hd hk Dt9 T
       have h := H.out
       clear H
       have HRE := Dt10.out.hE
       obtain ⟨AE, cE, hve, hcE, hCE⟩ := Kd.R_reads HRE
       subst hve
       have HCL := Lib.hid (Kd.R_reads' Dt10.out.hL).2
       have HCE := Lib.hid (And.intro hcE hCE)
       clear HRE hcE hCE
       have y0 : wt10.cell? ⟨gf, 0, none⟩ = some (.int .i64 v0) := (blk_cell Dt10.out.hF 0).trans rfl
       have y1 : wt10.cell? ⟨gf, 1, none⟩ = some (.int .i64 v1) := (blk_cell Dt10.out.hF 1).trans rfl
       have y2 : wt10.cell? ⟨gf, 2, none⟩ = some (.int .i64 v2) := (blk_cell Dt10.out.hF 2).trans rfl
       have y3 : wt10.cell? ⟨gf, 3, none⟩ = some (.int .i64 v3) := (blk_cell Dt10.out.hF 3).trans rfl
       have y4 : wt10.cell? ⟨gf, 4, none⟩ = some (.int .i64 v4) := (blk_cell Dt10.out.hF 4).trans rfl
       have y5 : wt10.cell? ⟨gf, 5, none⟩ = some (.slice AL l5.length cL) := (blk_cell Dt10.out.hF 5).trans rfl
       have y6 : wt10.cell? ⟨gf, 6, none⟩ = some (.slice AE es1.length cE) := (blk_cell Dt10.out.hF 6).trans rfl
       by_cases hee : ee = 0
       ·subst hee
        simp only [if_true] at h
        obtain rfl : true = c0b := hc0b
        try clear hc0b
        replace h := Option.bind_eq_some_iff.mp h
        obtain ⟨ck, hck, h⟩ := h
        have HCK := Lib.hid hck
        clear hck
        have H := Lib.hid h
        clear h
        go_wp2_with fail
        refine (frame_Check.calls K v0 v1 v2 v3 v4 AL cL l5 AE cE es1 ck wt10 HCL.out.2 HCL.out.1 HCE.out.2 HCE.out.1 HCK.out).mono ?_
        rintro e wc ⟨rfl, hb⟩
        have BC : Hid (Below w.heap.size w wc) := Lib.hid (Dt10.out.hB.trans (hb.mono Dt10.out.hB.size))
        have FC := Lib.hid ((hb.block _ (blk_lt Dt10.out.hF)).trans Dt10.out.hF)
        have QC := Lib.hid ((hb.block _ (blk_lt Dt10.out.hQ)).trans Dt10.out.hQ)
        have LC := Lib.hid (Kd.R_below Dt10.out.hL hb)
        have EC := Lib.hid (Kd.R_below Dt10.out.hE hb)
        clear hb
        clear y0 y1 y2 y3 y4 y5 y6
        have h := H.out
        clear H
        by_cases hck : ck = 0
        ·subst hck
         simp only [if_true, Option.some.injEq, Prod.mk.injEq] at h
         obtain ⟨rfl, rfl, rfl, rfl, rfl, rfl, rfl, rfl⟩ := h
         go_wp2_with (first
          | (refine wpList_load_row rfl _ _ rfl gf rfl 31 _ _ _ FC.out Tryd.underlying31 rfl (by kernel_rfl) ?_)
          | (refine wpList_store_row rfl _ _ _ rfl w.heap.size #[.int .i64 v0, .int .i64 v1, .int .i64 v2, .int .i64 v3, .int .i64 v4, .slice AL l5.length cL, .slice AE es1.length cE] rfl rfl 31 zF QC.out (by kernel_rfl) (by kernel_rfl) (by kernel_rfl) ?_))
         refine bodyPost_ret (dec_ret _ _ w.heap.size _ 0 rfl rfl (dec_row QC.out) rfl) rfl ?_
         exact ⟨_, _, rfl, dec_kept LC.out QC.out (by decide), dec_kept EC.out QC.out (by decide), below_setRow BC.out (Nat.le_refl _) _⟩
        ·rw [if_neg hck] at h
         have z1 : (ck == 0) = false := beq_eq_false_iff_ne.mpr hck
         have z2 : (ck != 0) = true := bne_iff_ne.mpr hck
         simp only [Option.some.injEq, Prod.mk.injEq] at h
         obtain ⟨rfl, rfl, rfl, rfl, rfl, rfl, rfl, rfl⟩ := h
         go_wp2_with (first
          | (refine wpList_store_row rfl _ _ _ rfl w.heap.size #[.int .i64 0, .int .i64 0, .int .i64 0, .int .i64 0, .int .i64 0, .slice none 0 0, .slice none 0 0] rfl rfl 31 zF QC.out (by kernel_rfl) (by kernel_rfl) (by kernel_rfl) ?_))
         refine bodyPost_ret (dec_ret _ _ w.heap.size _ 2 rfl rfl (dec_row QC.out) rfl) rfl ?_
         exact ⟨_, _, rfl, Kd.R_nil _ _ _ _ _, Kd.R_nil _ _ _ _ _, below_setRow BC.out (Nat.le_refl _) _⟩
       ·rw [if_neg hee] at h
        have z0 : false = c0b := by rw [← hc0b]; exact (beq_eq_false_iff_ne.mpr hee).symm
        subst z0
        try clear hc0b
        simp only [Option.some.injEq, Prod.mk.injEq] at h
        obtain ⟨rfl, rfl, rfl, rfl, rfl, rfl, rfl, rfl⟩ := h
        go_wp2_with (first
         | (refine wpList_store_row rfl _ _ _ rfl w.heap.size #[.int .i64 0, .int .i64 0, .int .i64 0, .int .i64 0, .int .i64 0, .slice none 0 0, .slice none 0 0] rfl rfl 31 zF Dt10.out.hQ (by kernel_rfl) (by kernel_rfl) (by kernel_rfl) ?_))
        refine bodyPost_ret (dec_ret _ _ w.heap.size _ 2 rfl rfl (dec_row Dt10.out.hQ) rfl) rfl ?_
        exact ⟨_, _, rfl, Kd.R_nil _ _ _ _ _, Kd.R_nil _ _ _ _ _, below_setRow Dt10.out.hB (Nat.le_refl _) _⟩
     ·obtain rfl : b = false := by simpa using hb
      simp only [Bool.false_eq_true, if_false, Option.some.injEq, Prod.mk.injEq] at h2
      obtain ⟨rfl, rfl⟩ := h2
      go_wp2_with fail
      refine (HD.out.more T2.out).mono ?_
      rintro e wm1 ⟨rfl, hd, hk⟩
      have HD3 := Lib.hid hd
      clear hd hk
      have h := H.out
      clear H
      replace h := Option.bind_eq_some_iff.mp h
      obtain ⟨t8, ht, h⟩ := h
      have T := Lib.hid ht
      clear ht
      have H := Lib.hid h
      clear h
      go_wp2_with fail
      refine (HD3.out.close T.out).mono ?_
      rintro e wt8 ⟨rfl, hd, hk⟩
      have Dt8 := Lib.hid hd
      clear hd hk  T
      have h := H.out
      clear H
      replace h := Option.bind_eq_some_iff.mp h
      obtain ⟨t9, ht, h⟩ := h
      have T := Lib.hid ht
      clear ht
      have H := Lib.hid h
      clear h
      go_wp2_with fail
      refine (Dt8.out.close T.out).mono ?_
      rintro e wt9 ⟨rfl, hd, hk⟩
      have Dt9 := Lib.hid hd
      clear hd hk Dt8 T
      have h := H.out
      clear H
      replace h := Option.bind_eq_some_iff.mp h
      obtain ⟨⟨ee, t10⟩, ht, h⟩ := h
      have T := Lib.hid ht
      clear ht
      have H := Lib.hid h
      clear h
      obtain ⟨c0b, hc0b⟩ : ∃ c0b : Bool, (ee == 0) = c0b := ⟨_, rfl⟩
      have hc1b : (ee != 0) = !c0b := by rw [bne, hc0b]
      go_wp2_with fail
      refine (Dt9.out.end_ T.out).mono ?_
      rintro e wt10 ⟨rfl, hd, hk⟩
      have Dt10 := Lib.hid hd
      clear hd hk Dt9 T
      have h := H.out
      clear H
      have HRE := Dt10.out.hE
      obtain ⟨AE, cE, hve, hcE, hCE⟩ := Kd.R_reads HRE
      subst hve
      have HCL := Lib.hid (Kd.R_reads' Dt10.out.hL).2
      have HCE := Lib.hid (And.intro hcE hCE)
      clear HRE hcE hCE
      have y0 : wt10.cell? ⟨gf, 0, none⟩ = some (.int .i64 v0) := (blk_cell Dt10.out.hF 0).trans rfl
      have y1 : wt10.cell? ⟨gf, 1, none⟩ = some (.int .i64 v1) := (blk_cell Dt10.out.hF 1).trans rfl
      have y2 : wt10.cell? ⟨gf, 2, none⟩ = some (.int .i64 v2) := (blk_cell Dt10.out.hF 2).trans rfl
      have y3 : wt10.cell? ⟨gf, 3, none⟩ = some (.int .i64 v3) := (blk_cell Dt10.out.hF 3).trans rfl
      have y4 : wt10.cell? ⟨gf, 4, none⟩ = some (.int .i64 v4) := (blk_cell Dt10.out.hF 4).trans rfl
      have y5 : wt10.cell? ⟨gf, 5, none⟩ = some (.slice AL l5.length cL) := (blk_cell Dt10.out.hF 5).trans rfl
      have y6 : wt10.cell? ⟨gf, 6, none⟩ = some (.slice AE es1.length cE) := (blk_cell Dt10.out.hF 6).trans rfl
      by_cases hee : ee = 0
      ·subst hee
       simp only [if_true] at h
       obtain rfl : true = c0b := hc0b
       try clear hc0b
       replace h := Option.bind_eq_some_iff.mp h
       obtain ⟨ck, hck, h⟩ := h
       have HCK := Lib.hid hck
       clear hck
       have H := Lib.hid h
       clear h
       go_wp2_with fail
       refine (frame_Check.calls K v0 v1 v2 v3 v4 AL cL l5 AE cE es1 ck wt10 HCL.out.2 HCL.out.1 HCE.out.2 HCE.out.1 HCK.out).mono ?_
       rintro e wc ⟨rfl, hb⟩
       have BC : Hid (Below w.heap.size w wc) := Lib.hid (Dt10.out.hB.trans (hb.mono Dt10.out.hB.size))
       have FC := Lib.hid ((hb.block _ (blk_lt Dt10.out.hF)).trans Dt10.out.hF)
       have QC := Lib.hid ((hb.block _ (blk_lt Dt10.out.hQ)).trans Dt10.out.hQ)
       have LC := Lib.hid (Kd.R_below Dt10.out.hL hb)
       have EC := Lib.hid (Kd.R_below Dt10.out.hE hb)
       clear hb
       clear y0 y1 y2 y3 y4 y5 y6
       have h := H.out
       clear H
       by_cases hck : ck = 0
       ·subst hck
        simp only [if_true, Option.some.injEq, Prod.mk.injEq] at h
        obtain ⟨rfl, rfl, rfl, rfl, rfl, rfl, rfl, rfl⟩ := h
        go_wp2_with (first
         | (refine wpList_load_row rfl _ _ rfl gf rfl 31 _ _ _ FC.out Tryd.underlying31 rfl (by kernel_rfl) ?_)
         | (refine wpList_store_row rfl _ _ _ rfl w.heap.size #[.int .i64 v0, .int .i64 v1, .int .i64 v2, .int .i64 v3, .int .i64 v4, .slice AL l5.length cL, .slice AE es1.length cE] rfl rfl 31 zF QC.out (by kernel_rfl) (by kernel_rfl) (by kernel_rfl) ?_))
        refine bodyPost_ret (dec_ret _ _ w.heap.size _ 0 rfl rfl (dec_row QC.out) rfl) rfl ?_
        exact ⟨_, _, rfl, dec_kept LC.out QC.out (by decide), dec_kept EC.out QC.out (by decide), below_setRow BC.out (Nat.le_refl _) _⟩
       ·rw [if_neg hck] at h
        have z1 : (ck == 0) = false := beq_eq_false_iff_ne.mpr hck
        have z2 : (ck != 0) = true := bne_iff_ne.mpr hck
        simp only [Option.some.injEq, Prod.mk.injEq] at h
        obtain ⟨rfl, rfl, rfl, rfl, rfl, rfl, rfl, rfl⟩ := h
        go_wp2_with (first
         | (refine wpList_store_row rfl _ _ _ rfl w.heap.size #[.int .i64 0, .int .i64 0, .int .i64 0, .int .i64 0, .int .i64 0, .slice none 0 0, .slice none 0 0] rfl rfl 31 zF QC.out (by kernel_rfl) (by kernel_rfl) (by kernel_rfl) ?_))
        refine bodyPost_ret (dec_ret _ _ w.heap.size _ 2 rfl rfl (dec_row QC.out) rfl) rfl ?_
        exact ⟨_, _, rfl, Kd.R_nil _ _ _ _ _, Kd.R_nil _ _ _ _ _, below_setRow BC.out (Nat.le_refl _) _⟩
      ·rw [if_neg hee] at h
       have z0 : false = c0b := by rw [← hc0b]; exact (beq_eq_false_iff_ne.mpr hee).symm
       subst z0
       try clear hc0b
       simp only [Option.some.injEq, Prod.mk.injEq] at h
       obtain ⟨rfl, rfl, rfl, rfl, rfl, rfl, rfl, rfl⟩ := h
       go_wp2_with (first
        | (refine wpList_store_row rfl _ _ _ rfl w.heap.size #[.int .i64 0, .int .i64 0, .int .i64 0, .int .i64 0, .int .i64 0, .slice none 0 0, .slice none 0 0] rfl rfl 31 zF Dt10.out.hQ (by kernel_rfl) (by kernel_rfl) (by kernel_rfl) ?_))
       refine bodyPost_ret (dec_ret _ _ w.heap.size _ 2 rfl rfl (dec_row Dt10.out.hQ) rfl) rfl ?_
       exact ⟨_, _, rfl, Kd.R_nil _ _ _ _ _, Kd.R_nil _ _ _ _ _, below_setRow Dt10.out.hB (Nat.le_refl _) _⟩
end Go.Proofs.YtfpopmojlmpopaaDoor.H

end
section
namespace Go.Proofs.YtfpopmojlmpopaaDoor.H
open Go.RowKit Go.Proofs.YtfpopmojlmpopaaDoorW.PrintWords Go.Proofs.YtfpopmojlmpopaaDoorW.PrintLast Go.Proofs.YtfpopmojlmpopaaDoorW.PrintMore Go.Proofs.YtfpopmojlmpopaaDoor.G
set_option linter.unusedVariables false
set_option linter.unusedSimpArgs false
def aw21 : List Int := [108, 105, 52, 59, 105, 48, 59, 105, 51, 59, 105, 49, 59, 105, 50, 59, 108, 101, 108, 101, 101]
def aw25 : List Int := aw21 ++ digs (crcL 65535 aw21)
theorem aw_enc : frame_Encode.f 100 4 0 3 1 2 [] [] = some (aw25, 0) := by kernel_rfl
theorem aw_dec : frame_Decode.f 100 aw25 = some (4, 0, 3, 1, 2, [], [], 0) := by kernel_rfl
theorem aw_diff : frame_Diff.f 30 [⟨#[97]⟩, ⟨#[98]⟩] [⟨#[98]⟩, ⟨#[97]⟩] = some ([⟨0, 1, []⟩, ⟨2, 0, [⟨#[97]⟩]⟩], 0) := by kernel_rfl
theorem aw_apply : frame_Apply.f 30 [⟨#[97]⟩, ⟨#[98]⟩, ⟨#[99]⟩] [⟨1, 1, [⟨#[120]⟩]⟩] = some ([⟨#[97]⟩, ⟨#[120]⟩, ⟨#[99]⟩], 0) := by kernel_rfl
theorem aw_eq : frame_Equal.f 1 4 0 3 1 2 [] [] 4 0 3 1 2 [] [] = some true := by kernel_rfl
theorem aw_edits : salchowref49_SameEdits.f 30 [⟨0, 1, []⟩, ⟨2, 0, [⟨#[97]⟩]⟩] [⟨0, 1, []⟩, ⟨2, 0, [⟨#[97]⟩]⟩] = some true := by kernel_rfl
theorem aw_lines : salchowref49_SameLines.f 30 [⟨#[97]⟩, ⟨#[120]⟩, ⟨#[99]⟩] [⟨#[97]⟩, ⟨#[120]⟩, ⟨#[99]⟩] = some true := by kernel_rfl
theorem aw_sum : frame_Sum.f [49, 50, 51, 52, 53, 54, 55, 56, 57] = some 10673 := by kernel_rfl
theorem C_strs {W : World} {b : Nat} (l : List ByteArray) {fr : Nat × Nat} (hl : l.length ≤ 9223372036854775807) (h : W.heap[b]? = some (.cells (l.map Value.string).toArray 9 fr)) : Kd.C Kd.string W (some ⟨b, 0, none⟩) l.length l :=
 Kd.C_of_reads (enc := Value.string) (d := ByteArray.empty) (h1 := fun _ => rfl) ⟨rfl, hl, fun _ => ⟨_, rfl, fun j hj => by
  rw [add_plain, cell_of_row _ _ _ _ _ _ h]
  simp [List.getD, hj]⟩⟩
theorem C_eds {W : World} {b : Nat} (l : List S52) (cs : List (List Value)) {fr : Nat × Nat} (hl : l.length ≤ 9223372036854775807) (hcl : cs.length = l.length) (h : W.heap[b]? = some (.cells cs.flatten.toArray 52 fr))
  (hk : ∀ j (h1 : j < l.length) (h2 : j < cs.length), k52.K W l[j] cs[j]) (hf : ∀ j (h2 : j < cs.length) i u, cs[j][i]? = some u → cs.flatten[j * 3 + i]? = some u) : Kd.C k52 W (some ⟨b, 0, none⟩) l.length l := by
 refine ⟨rfl, hl, fun _ => ⟨_, rfl, fun j p hj => ?_⟩⟩
 obtain ⟨h1, rfl⟩ := List.getElem?_eq_some_iff.1 hj
 refine ⟨cs[j]'(by omega), k52.K_len (hk j h1 (by omega)), hk j h1 (by omega), fun i u hu => ?_⟩
 rw [add_plain, cell_of_row _ _ _ _ _ _ h, List.getElem?_toArray]
 exact hf j (by omega) i u hu
def salchowlaw49_awake.f : Option Bool := some true
set_option maxHeartbeats 8000000 in
set_option maxRecDepth 100000 in
theorem salchowlaw49_awake.calls (r : Bool) (w : World) (hLd : Laid w) (h : salchowlaw49_awake.f = some r) :
  Calls Tryd.prog 10 #[] w fun e w' => e = .returned (.bool r) ∧ Below w.heap.size w w' := by
 obtain rfl : true = r := Option.some.inj h
 clear h
 have HL := Lib.hid hLd
 clear hLd
 go_enter Tryd.func10, Tryd.ntmps10
 go_wp2_with fail
 have HB0 : Hid (Below w.heap.size w (w.alloc (Obj.cells #[.int .i64 4, .int .i64 0, .int .i64 3, .int .i64 1, .int .i64 2, .slice none 0 0, .slice none 0 0] 31))) := Lib.hid (below_alloc (Below.refl _ _) _)
 have HF0 : Hid ((w.alloc (Obj.cells #[.int .i64 4, .int .i64 0, .int .i64 3, .int .i64 1, .int .i64 2, .slice none 0 0, .slice none 0 0] 31)).heap[w.heap.size]? = some (.cells #[.int .i64 4, .int .i64 0, .int .i64 3, .int .i64 1, .int .i64 2, .slice none 0 0, .slice none 0 0] 31 (0, 0))) := Lib.hid (heap_alloc_new _ _)
 generalize w.alloc (Obj.cells #[.int .i64 4, .int .i64 0, .int .i64 3, .int .i64 1, .int .i64 2, .slice none 0 0, .slice none 0 0] 31) = w0 at HB0 HF0 ⊢
 refine (frame_Encode.calls 100 4 0 3 1 2 none 0 [] none 0 [] aw25 0 w0 (HL.out.below HB0.out) (Kd.C_nil _ _) (Nat.le_refl _) (Kd.C_nil _ _) (Nat.le_refl _) aw_enc).mono ?_
 rintro e w1 ⟨A1, c1, rfl, hc1, hC1, hb1⟩
 have HC1 := Lib.hid (And.intro hc1 hC1)
 have HB1 : Hid (Below w.heap.size w w1) := Lib.hid (below_step HB0.out hb1)
 have HF1 := Lib.hid ((hb1.block _ (blk_lt HF0.out)).trans HF0.out)
 clear hc1 hC1 hb1 HB0 HF0
 go_wp2_with fail
 refine (frame_Decode.calls 100 A1 c1 aw25 4 0 3 1 2 [] [] 0 w1 (HL.out.below HB1.out) HC1.out.2 HC1.out.1 aw_dec).mono ?_
 rintro e w2 ⟨v0, v1, rfl, hr0, hr1, hb2⟩
 obtain ⟨A2, c2, rfl, hc2, hC2⟩ := Kd.R_reads hr0
 obtain ⟨A3, c3, rfl, hc3, hC3⟩ := Kd.R_reads hr1
 have HR2 := Lib.hid (And.intro hc2 hC2)
 have HR3 := Lib.hid (And.intro hc3 hC3)
 have HB2 : Hid (Below w.heap.size w w2) := Lib.hid (below_step HB1.out hb2)
 have HC2 := Lib.hid (Kd.C_below HC1.out.2 hb2)
 have HF2 := Lib.hid ((hb2.block _ (blk_lt HF1.out)).trans HF1.out)
 clear hr0 hr1 hc2 hC2 hc3 hC3 hb2 HB1 HF1
 go_wp2_with fail
 have HS0 : Hid (w2.heap.size = w2.heap.size) := Lib.hid rfl
 obtain ⟨W3, hW3⟩ : ∃ W3, w2.alloc (Obj.cells #[.int .i64 4, .int .i64 0, .int .i64 3, .int .i64 1, .int .i64 2, .slice A2 0 c2, .slice A3 0 c3] 31) = W3 := ⟨_, rfl⟩
 have HB3 : Hid (Below w.heap.size w W3) := Lib.hid (by rw [← hW3]; exact below_alloc HB2.out _)
 have HF3 := Lib.hid (show W3.heap[w.heap.size]? = some (.cells #[.int .i64 4, .int .i64 0, .int .i64 3, .int .i64 1, .int .i64 2, .slice none 0 0, .slice none 0 0] 31 (0, 0)) from by rw [← hW3]; exact blk_alloc HF2.out _)
 have HG3 : Hid (W3.heap[w2.heap.size]? = some (.cells #[.int .i64 4, .int .i64 0, .int .i64 3, .int .i64 1, .int .i64 2, .slice A2 0 c2, .slice A3 0 c3] 31 (0, 0))) := Lib.hid (by rw [← hW3]; exact heap_alloc_new _ _)
 have HZ3 : Hid (W3.heap.size = w2.heap.size + 1) := Lib.hid (by rw [← hW3]; simp)
 have hz3 := HZ3.out
 simp only [hW3]
 have hA : ((W3.alloc (Obj.cells #[.string ⟨#[97]⟩, .string ⟨#[98]⟩] 9)).alloc (Obj.cells #[.string ⟨#[98]⟩, .string ⟨#[97]⟩] 9)).heap[w2.heap.size + 1]? = some (.cells #[.string ⟨#[97]⟩, .string ⟨#[98]⟩] 9 (0, 0)) := by rw [← hz3]; exact blk_alloc (heap_alloc_new _ _) _
 have hB : ((W3.alloc (Obj.cells #[.string ⟨#[97]⟩, .string ⟨#[98]⟩] 9)).alloc (Obj.cells #[.string ⟨#[98]⟩, .string ⟨#[97]⟩] 9)).heap[w2.heap.size + 1 + 1]? = some (.cells #[.string ⟨#[98]⟩, .string ⟨#[97]⟩] 9 (0, 0)) := by
  have h := heap_alloc_new (W3.alloc (Obj.cells #[.string ⟨#[97]⟩, .string ⟨#[98]⟩] 9)) (Obj.cells #[.string ⟨#[98]⟩, .string ⟨#[97]⟩] 9)
  rwa [show (W3.alloc (Obj.cells #[.string ⟨#[97]⟩, .string ⟨#[98]⟩] 9)).heap.size = w2.heap.size + 1 + 1 from by simp [hz3]] at h
 refine (frame_Diff.calls 30 (some ⟨w2.heap.size + 1, 0, none⟩) 2 [⟨#[97]⟩, ⟨#[98]⟩] (some ⟨w2.heap.size + 1 + 1, 0, none⟩) 2 [⟨#[98]⟩, ⟨#[97]⟩] _ 0 _ (C_strs _ (by decide) hA) (Nat.le_refl _) (C_strs _ (by decide) hB) (Nat.le_refl _) aw_diff).mono ?_
 rintro e w4 ⟨v4, rfl, hS4, hb4⟩
 obtain ⟨A4, c4, rfl, hc4, hC4⟩ := Kd.S_reads hS4
 have HR4 := Lib.hid (And.intro hc4 hC4)
 have HB4 : Hid (Below w.heap.size w w4) := Lib.hid (below_step (below_alloc (below_alloc HB3.out _) _) hb4)
 have HF4 := Lib.hid ((hb4.block _ (blk_lt (blk_alloc (blk_alloc HF3.out _) _))).trans (blk_alloc (blk_alloc HF3.out _) _))
 have HG4 := Lib.hid ((hb4.block _ (blk_lt (blk_alloc (blk_alloc HG3.out _) _))).trans (blk_alloc (blk_alloc HG3.out _) _))
 have HU : Hid (Below w2.heap.size w2 w4) := Lib.hid (by
  have h3 : Below w2.heap.size w2 W3 := by rw [← hW3]; exact below_alloc (Below.refl _ _) _
  exact below_step (below_alloc (below_alloc h3 _) _) hb4)
 have HD2 := Lib.hid (Kd.C_below HC2.out HU.out)
 have HR24 := Lib.hid (Kd.C_below HR2.out.2 HU.out)
 have HR34 := Lib.hid (Kd.C_below HR3.out.2 HU.out)
 clear hS4 hc4 hC4 hb4 hA hB hz3 hW3 HF3 HG3 HZ3 HB3 HF2 HB2 HC2
 generalize w2.heap.size = g2 at HG4 ⊢
 go_wp2_with fail
 have hP : (((w4.alloc (Obj.cells #[.string ⟨#[97]⟩, .string ⟨#[98]⟩, .string ⟨#[99]⟩] 9)).alloc (Obj.cells #[.string ⟨#[120]⟩] 9)).alloc (Obj.cells #[.int .i64 1, .int .i64 1, .slice (some ⟨w4.heap.size + 1, 0, none⟩) 1 1] 52)).heap[w4.heap.size]? = some (.cells #[.string ⟨#[97]⟩, .string ⟨#[98]⟩, .string ⟨#[99]⟩] 9 (0, 0)) := blk_alloc (blk_alloc (heap_alloc_new _ _) _) _
 have hQ : (((w4.alloc (Obj.cells #[.string ⟨#[97]⟩, .string ⟨#[98]⟩, .string ⟨#[99]⟩] 9)).alloc (Obj.cells #[.string ⟨#[120]⟩] 9)).alloc (Obj.cells #[.int .i64 1, .int .i64 1, .slice (some ⟨w4.heap.size + 1, 0, none⟩) 1 1] 52)).heap[w4.heap.size + 1]? = some (.cells #[.string ⟨#[120]⟩] 9 (0, 0)) := by
  have h := heap_alloc_new (w4.alloc (Obj.cells #[.string ⟨#[97]⟩, .string ⟨#[98]⟩, .string ⟨#[99]⟩] 9)) (Obj.cells #[.string ⟨#[120]⟩] 9)
  rw [show (w4.alloc (Obj.cells #[.string ⟨#[97]⟩, .string ⟨#[98]⟩, .string ⟨#[99]⟩] 9)).heap.size = w4.heap.size + 1 from by simp] at h
  exact blk_alloc h _
 have hR : (((w4.alloc (Obj.cells #[.string ⟨#[97]⟩, .string ⟨#[98]⟩, .string ⟨#[99]⟩] 9)).alloc (Obj.cells #[.string ⟨#[120]⟩] 9)).alloc (Obj.cells #[.int .i64 1, .int .i64 1, .slice (some ⟨w4.heap.size + 1, 0, none⟩) 1 1] 52)).heap[w4.heap.size + 1 + 1]? = some (.cells #[.int .i64 1, .int .i64 1, .slice (some ⟨w4.heap.size + 1, 0, none⟩) 1 1] 52 (0, 0)) := by
  have h := heap_alloc_new ((w4.alloc (Obj.cells #[.string ⟨#[97]⟩, .string ⟨#[98]⟩, .string ⟨#[99]⟩] 9)).alloc (Obj.cells #[.string ⟨#[120]⟩] 9)) (Obj.cells #[.int .i64 1, .int .i64 1, .slice (some ⟨w4.heap.size + 1, 0, none⟩) 1 1] 52)
  rwa [show ((w4.alloc (Obj.cells #[.string ⟨#[97]⟩, .string ⟨#[98]⟩, .string ⟨#[99]⟩] 9)).alloc (Obj.cells #[.string ⟨#[120]⟩] 9)).heap.size = w4.heap.size + 1 + 1 from by simp] at h
 have hB8 : Below w.heap.size w (((w4.alloc (Obj.cells #[.string ⟨#[97]⟩, .string ⟨#[98]⟩, .string ⟨#[99]⟩] 9)).alloc (Obj.cells #[.string ⟨#[120]⟩] 9)).alloc (Obj.cells #[.int .i64 1, .int .i64 1, .slice (some ⟨w4.heap.size + 1, 0, none⟩) 1 1] 52)) := below_alloc (below_alloc (below_alloc HB4.out _) _) _
 refine (frame_Apply.calls 30 (some ⟨w4.heap.size, 0, none⟩) 3 [⟨#[97]⟩, ⟨#[98]⟩, ⟨#[99]⟩] (some ⟨w4.heap.size + 1 + 1, 0, none⟩) 1 [⟨1, 1, [⟨#[120]⟩]⟩] _ 0 _ (C_strs _ (by decide) hP) (Nat.le_refl _) (C_eds [⟨1, 1, [⟨#[120]⟩]⟩] [[.int .i64 1, .int .i64 1, .slice (some ⟨w4.heap.size + 1, 0, none⟩) 1 1]] (by decide) rfl hR (fun j h1 h2 => by
  obtain rfl : j = 0 := by simp at h1; omega
  exact k52_mk _ ⟨1, 1, [⟨#[120]⟩]⟩ (Nat.le_refl _) (C_strs [⟨#[120]⟩] (by decide) hQ)) (fun j h2 i u hu => by
  obtain rfl : j = 0 := by simp at h2; omega
  simpa using hu)) (Nat.le_refl _) aw_apply).mono ?_
 rintro e w5 ⟨v5, rfl, hr5, hb5⟩
 obtain ⟨A5, c5, rfl, hc5, hC5⟩ := Kd.R_reads hr5
 have HR5 := Lib.hid (And.intro hc5 hC5)
 have hU : Below w4.heap.size w4 (((w4.alloc (Obj.cells #[.string ⟨#[97]⟩, .string ⟨#[98]⟩, .string ⟨#[99]⟩] 9)).alloc (Obj.cells #[.string ⟨#[120]⟩] 9)).alloc (Obj.cells #[.int .i64 1, .int .i64 1, .slice (some ⟨w4.heap.size + 1, 0, none⟩) 1 1] 52)) := below_alloc (below_alloc (below_alloc (Below.refl _ _) _) _) _
 have HV : Hid (Below w4.heap.size w4 w5) := Lib.hid (below_step hU hb5)
 have HB5 : Hid (Below w.heap.size w w5) := Lib.hid (below_step HB4.out HV.out)
 have HF5 := Lib.hid ((HV.out.block _ (blk_lt HF4.out)).trans HF4.out)
 have HG5 := Lib.hid ((HV.out.block _ (blk_lt HG4.out)).trans HG4.out)
 have HD5 := Lib.hid (Kd.C_below HD2.out HV.out)
 have HR25 := Lib.hid (Kd.C_below HR24.out HV.out)
 have HR35 := Lib.hid (Kd.C_below HR34.out HV.out)
 have HR45 := Lib.hid (Kd.C_below HR4.out.2 HV.out)
 clear hr5 hc5 hC5 hb5 hU hP hQ hR hB8 HV HF4 HG4 HD2 HR24 HR34 HB4 HU
 have f0 : w5.cell? ⟨w.heap.size, 0, none⟩ = some (.int .i64 4) := (blk_cell HF5.out 0).trans rfl
 have ga0 : w5.cell? ⟨g2, 0, none⟩ = some (.int .i64 4) := (blk_cell HG5.out 0).trans rfl
 have f1 : w5.cell? ⟨w.heap.size, 1, none⟩ = some (.int .i64 0) := (blk_cell HF5.out 1).trans rfl
 have ga1 : w5.cell? ⟨g2, 1, none⟩ = some (.int .i64 0) := (blk_cell HG5.out 1).trans rfl
 have f2 : w5.cell? ⟨w.heap.size, 2, none⟩ = some (.int .i64 3) := (blk_cell HF5.out 2).trans rfl
 have ga2 : w5.cell? ⟨g2, 2, none⟩ = some (.int .i64 3) := (blk_cell HG5.out 2).trans rfl
 have f3 : w5.cell? ⟨w.heap.size, 3, none⟩ = some (.int .i64 1) := (blk_cell HF5.out 3).trans rfl
 have ga3 : w5.cell? ⟨g2, 3, none⟩ = some (.int .i64 1) := (blk_cell HG5.out 3).trans rfl
 have f4 : w5.cell? ⟨w.heap.size, 4, none⟩ = some (.int .i64 2) := (blk_cell HF5.out 4).trans rfl
 have ga4 : w5.cell? ⟨g2, 4, none⟩ = some (.int .i64 2) := (blk_cell HG5.out 4).trans rfl
 have f5 : w5.cell? ⟨w.heap.size, 5, none⟩ = some (.slice none 0 0) := (blk_cell HF5.out 5).trans rfl
 have ga5 : w5.cell? ⟨g2, 5, none⟩ = some (.slice A2 0 c2) := (blk_cell HG5.out 5).trans rfl
 have f6 : w5.cell? ⟨w.heap.size, 6, none⟩ = some (.slice none 0 0) := (blk_cell HF5.out 6).trans rfl
 have ga6 : w5.cell? ⟨g2, 6, none⟩ = some (.slice A3 0 c3) := (blk_cell HG5.out 6).trans rfl
 have hlen : ((aw25.length : Int) == 25) = true := by kernel_rfl
 have hq : 21 ≤ c1 := by
  have h1 := HC1.out.1
  have h2 : aw25.length = 25 := by kernel_rfl
  omega
 have hsl : (21 ≤ c1) = True := eq_true hq
 have hsi : ((21 : Int) ≤ (c1 : Int)) = True := eq_true (by omega)
 have hsj : (0 ≤ (c1 : Int)) = True := eq_true (by omega)
 clear hq
 have hcv : (convert 22 9 (.slice A1 21 c1)).run Tryd.prog w5 = .ok (.string (strOfNums aw21)) w5 := by
  have h := Kd.C_take HD5.out (m := 21) (by decide)
  exact Kd.C_string Tryd.underlying22 Tryd.underlying5 Tryd.underlying9 h
 have hst : ((strOfNums aw21).toList == [108, 105, 52, 59, 105, 48, 59, 105, 51, 59, 105, 49, 59, 105, 50, 59, 108, 101, 108, 101, 101]) = true := by kernel_rfl
 go_wp2_with fail
 refine (frame_Equal.calls 1 4 0 3 1 2 none 0 [] none 0 [] 4 0 3 1 2 A2 c2 [] A3 c3 [] true w5 (Kd.C_nil _ _) (Nat.le_refl _) (Kd.C_nil _ _) (Nat.le_refl _) HR25.out HR2.out.1 HR35.out HR3.out.1 aw_eq).mono ?_
 rintro e w6 ⟨rfl, hb6⟩
 have HB6 : Hid (Below w.heap.size w w6) := Lib.hid (below_step HB5.out hb6)
 have HR46 := Lib.hid (Kd.C_below HR45.out hb6)
 have HR56 := Lib.hid (Kd.C_below HR5.out.2 hb6)
 have hc4 := HR4.out.1
 have hc5 := HR5.out.1
 clear hb6 HB5 HF5 HG5 HD5 HR25 HR35 HR45 f0 f1 f2 f3 f4 f5 f6 ga0 ga1 ga2 ga3 ga4 ga5 ga6 hlen hsl hsi hsj hcv hst
 have HH4 := Lib.hid hc4
 have HH5 := Lib.hid hc5
 clear hc4 hc5
 go_wp2_with fail
 have hP : ((w6.alloc (Obj.cells #[.string ⟨#[97]⟩] 9)).alloc (Obj.cells #[.int .i64 0, .int .i64 1, .slice none 0 0, .int .i64 2, .int .i64 0, .slice (some ⟨w6.heap.size, 0, none⟩) 1 1] 52)).heap[w6.heap.size]? = some (.cells #[.string ⟨#[97]⟩] 9 (0, 0)) := blk_alloc (heap_alloc_new _ _) _
 have hR : ((w6.alloc (Obj.cells #[.string ⟨#[97]⟩] 9)).alloc (Obj.cells #[.int .i64 0, .int .i64 1, .slice none 0 0, .int .i64 2, .int .i64 0, .slice (some ⟨w6.heap.size, 0, none⟩) 1 1] 52)).heap[w6.heap.size + 1]? = some (.cells #[.int .i64 0, .int .i64 1, .slice none 0 0, .int .i64 2, .int .i64 0, .slice (some ⟨w6.heap.size, 0, none⟩) 1 1] 52 (0, 0)) := by
  have h := heap_alloc_new (w6.alloc (Obj.cells #[.string ⟨#[97]⟩] 9)) (Obj.cells #[.int .i64 0, .int .i64 1, .slice none 0 0, .int .i64 2, .int .i64 0, .slice (some ⟨w6.heap.size, 0, none⟩) 1 1] 52)
  rwa [show (w6.alloc (Obj.cells #[.string ⟨#[97]⟩] 9)).heap.size = w6.heap.size + 1 from by simp] at h
 have hU6 : Below w6.heap.size w6 ((w6.alloc (Obj.cells #[.string ⟨#[97]⟩] 9)).alloc (Obj.cells #[.int .i64 0, .int .i64 1, .slice none 0 0, .int .i64 2, .int .i64 0, .slice (some ⟨w6.heap.size, 0, none⟩) 1 1] 52)) := below_alloc (below_alloc (Below.refl _ _) _) _
 refine (salchowref49_SameEdits.calls 30 A4 c4 [⟨0, 1, []⟩, ⟨2, 0, [⟨#[97]⟩]⟩] (some ⟨w6.heap.size + 1, 0, none⟩) 2 [⟨0, 1, []⟩, ⟨2, 0, [⟨#[97]⟩]⟩] true _ (Kd.C_below HR46.out hU6) HH4.out (C_eds [⟨0, 1, []⟩, ⟨2, 0, [⟨#[97]⟩]⟩] [[.int .i64 0, .int .i64 1, .slice none 0 0], [.int .i64 2, .int .i64 0, .slice (some ⟨w6.heap.size, 0, none⟩) 1 1]] (by decide) rfl hR (fun j h1 h2 => by
  have h3 : j < 2 := h1
  obtain rfl | rfl : j = 0 ∨ j = 1 := by omega
  ·exact k52_mk _ ⟨0, 1, []⟩ (Nat.le_refl _) (Kd.C_nil _ _)
  ·exact k52_mk _ ⟨2, 0, [⟨#[97]⟩]⟩ (Nat.le_refl _) (C_strs [⟨#[97]⟩] (by decide) hP)) (fun j h2 i u hu => by
  have h3 : j < 2 := h2
  obtain rfl | rfl : j = 0 ∨ j = 1 := by omega
  ·match i, hu with
   | 0, hu => exact hu
   | 1, hu => exact hu
   | 2, hu => exact hu
   | n + 3, hu => simp at hu
  ·match i, hu with
   | 0, hu => exact hu
   | 1, hu => exact hu
   | 2, hu => exact hu
   | n + 3, hu => simp at hu)) (Nat.le_refl _) aw_edits).mono ?_
 rintro e w7 ⟨rfl, hb7⟩
 have hU7 := below_step hU6 hb7
 have HB7 : Hid (Below w.heap.size w w7) := Lib.hid (below_step HB6.out hU7)
 have HR57 := Lib.hid (Kd.C_below HR56.out hU7)
 clear hP hR hU6 hU7 hb7 HB6 HR46 HR56
 go_wp2_with fail
 refine (salchowref49_SameLines.calls 30 A5 c5 [⟨#[97]⟩, ⟨#[120]⟩, ⟨#[99]⟩] (some ⟨w7.heap.size, 0, none⟩) 3 [⟨#[97]⟩, ⟨#[120]⟩, ⟨#[99]⟩] true _ (Kd.C_below HR57.out (below_alloc (Below.refl _ _) _)) HH5.out (C_strs [⟨#[97]⟩, ⟨#[120]⟩, ⟨#[99]⟩] (by decide) (heap_alloc_new _ _)) (Nat.le_refl _) aw_lines).mono ?_
 rintro e w8 ⟨rfl, hd8⟩
 have HB8 : Hid (Below w.heap.size w w8) := Lib.hid (below_step (below_alloc HB7.out _) hd8.below)
 clear hd8 HB7 HR57
 have kc := fun (w : World) (C : Array Value) (n c : Nat) => Lib.run_convert_bytes_const (P := Tryd.prog) w 22 5 C n c Tryd.underlying22 Tryd.underlying5
 go_wp2_with fail
 have hS : (w8.alloc (Obj.cells #[.int .u8 49, .int .u8 50, .int .u8 51, .int .u8 52, .int .u8 53, .int .u8 54, .int .u8 55, .int .u8 56, .int .u8 57] 5 (9, 10))).heap[w8.heap.size]? = some (.cells #[.int .u8 49, .int .u8 50, .int .u8 51, .int .u8 52, .int .u8 53, .int .u8 54, .int .u8 55, .int .u8 56, .int .u8 57] 5 (9, 10)) := heap_alloc_new _ _
 refine (frame_Sum.calls (some ⟨w8.heap.size, 0, none⟩) 9 [49, 50, 51, 52, 53, 54, 55, 56, 57] 10673 (w8.alloc (Obj.cells #[.int .u8 49, .int .u8 50, .int .u8 51, .int .u8 52, .int .u8 53, .int .u8 54, .int .u8 55, .int .u8 56, .int .u8 57] 5 (9, 10))) (C_of_cells (by decide) (fun j hj => by
  rw [cell_of_row _ _ _ _ _ _ hS]
  have h9 : j < 9 := hj
  match j, h9 with
  | 0, _ => rfl
  | 1, _ => rfl
  | 2, _ => rfl
  | 3, _ => rfl
  | 4, _ => rfl
  | 5, _ => rfl
  | 6, _ => rfl
  | 7, _ => rfl
  | 8, _ => rfl)) (Nat.le_refl _) aw_sum).mono ?_
 rintro e w9 ⟨rfl, hb9⟩
 have HB9 : Hid (Below w.heap.size w w9) := Lib.hid (below_step (below_alloc HB8.out _) hb9)
 clear hb9 HB8
 go_wp2_with fail
 go_ret
 exact ⟨rfl, HB9.out⟩
end Go.Proofs.YtfpopmojlmpopaaDoor.H

end
section
namespace Go.Proofs.YtfpopmojlmpopaaDoor.G
open Go.RowKit Go.Proofs.YtfpopmojlmpopaaDoorW.PrintWords Go.Proofs.YtfpopmojlmpopaaDoorW.PrintLast Go.Proofs.YtfpopmojlmpopaaDoorW.PrintMore
attribute [local go_sem] max2_int min2_int max_two min_two max_three min_three max_four min_four
set_option linter.unusedVariables false
set_option linter.unusedSimpArgs false
mutual
def salchowlaw49_FrameMakes.j0 : Nat → List ByteArray → List ByteArray → List ByteArray → Bool → Option (Bool)
 | 0, _, _, _, _ => none
 | k + 1, x0, x1, x2, x44 => if x44 = true then ((Go.Proofs.YtfpopmojlmpopaaDoor.H.salchowlaw49_awake.f).bind fun t254 => (some t254)) else ((Go.Proofs.YtfpopmojlmpopaaDoor.H.frame_Diff.f k x0 x1).bind fun bt255 => ((Go.Proofs.YtfpopmojlmpopaaDoor.H.frame_Diff.f k x1 x0).bind fun bt259 => ((Go.Proofs.YtfpopmojlmpopaaDoor.H.frame_Diff.f k x1 x2).bind fun bt263 => ((Go.Proofs.YtfpopmojlmpopaaDoor.H.frame_Diff.f k x0 x2).bind fun bt267 => (if bt255.2 = 0 then (if bt259.2 = 0 then (if bt263.2 = 0 then (salchowlaw49_FrameMakes.j1 k x0 x1 bt255.1 bt259.1 bt263.1 bt267.1 (bt267.2 != 0)) else (salchowlaw49_FrameMakes.j1 k x0 x1 bt255.1 bt259.1 bt263.1 bt267.1 true)) else (salchowlaw49_FrameMakes.j1 k x0 x1 bt255.1 bt259.1 bt263.1 bt267.1 true)) else (salchowlaw49_FrameMakes.j1 k x0 x1 bt255.1 bt259.1 bt263.1 bt267.1 true))))))
def salchowlaw49_FrameMakes.j1 : Nat → List ByteArray → List ByteArray → List (S52) → List (S52) → List (S52) → List (S52) → Bool → Option (Bool)
 | 0, _, _, _, _, _, _, _ => none
 | k + 1, x0, x1, x7, x9, x11, x13, x83 => if x83 = true then (some false) else ((frame_Apply.f k x0 x7).bind fun bt271 => ((Go.Proofs.YtfpopmojlmpopaaDoor.H.salchowlaw49_awake.f).bind fun t275 => (if t275 = true then (if bt271.2 = 0 then ((salchowref49_SameLines.f k bt271.1 x1).bind fun t276 => (if t276 = true then ((salchowref49_SameLines.f k x0 x1).bind fun t277 => (if (((x7.length : Int) == 0) == t277) = true then ((salchowref49_Cost.f k x7).bind fun t278 => ((salchowref49_Cost.f k x9).bind fun t279 => (if t278 = t279 then ((salchowref49_Cost.f k x13).bind fun t280 => ((salchowref49_Cost.f k x7).bind fun t281 => ((salchowref49_Cost.f k x11).bind fun t282 => (some (decide (t280 ≤ (wrap64 (t281 + t282)))))))) else (some false)))) else (some false))) else (some false))) else (some false)) else (some false))))
end
def salchowlaw49_FrameMakes.f (k : Nat) (l0 : List ByteArray) (l1 : List ByteArray) (l2 : List ByteArray) : Option (Bool) := (salchowref49_Few.f k l0).bind fun t248 => (if t248 = true then ((salchowref49_Few.f k l1).bind fun t249 => (if t249 = true then ((salchowref49_Few.f k l2).bind fun t250 => (if t250 = true then ((salchowref49_Lines.f k l0).bind fun t251 => (if t251 = true then ((salchowref49_Lines.f k l1).bind fun t252 => (if t252 = true then ((salchowref49_Lines.f k l2).bind fun t253 => (salchowlaw49_FrameMakes.j0 k l0 l1 l2 (!t253))) else (salchowlaw49_FrameMakes.j0 k l0 l1 l2 true))) else (salchowlaw49_FrameMakes.j0 k l0 l1 l2 true))) else (salchowlaw49_FrameMakes.j0 k l0 l1 l2 true))) else (salchowlaw49_FrameMakes.j0 k l0 l1 l2 true))) else (salchowlaw49_FrameMakes.j0 k l0 l1 l2 true))
set_option maxHeartbeats 8000000 in
set_option maxRecDepth 100000 in
theorem salchowlaw49_FrameMakes.calls (k : Nat) (A0 : Option Addr) (c0 : Nat) (l0 : List ByteArray) (A1 : Option Addr) (c1 : Nat) (l1 : List ByteArray) (A2 : Option Addr) (c2 : Nat) (l2 : List ByteArray) (r : Bool) (w : World) (hLd : Go.Proofs.YtfpopmojlmpopaaDoor.H.Laid w) (hr0 : Kd.C Kd.string w A0 l0.length l0) (hc0 : l0.length ≤ c0) (hr1 : Kd.C Kd.string w A1 l1.length l1) (hc1 : l1.length ≤ c1) (hr2 : Kd.C Kd.string w A2 l2.length l2) (hc2 : l2.length ≤ c2) (h : salchowlaw49_FrameMakes.f k l0 l1 l2 = some r) :
  Calls Tryd.prog 7 #[.slice A0 l0.length c0, .slice A1 l1.length c1, .slice A2 l2.length c2] w fun e w' => e = .returned (.bool r) ∧ Below w.heap.size w w' := by
 have HLd := Aside0.mk hLd
 clear hLd
 have HR0 := Aside0.mk hr0
 have HC0 := Aside0.mk hc0
 clear hr0 hc0
 have HR1 := Aside0.mk hr1
 have HC1 := Aside0.mk hc1
 clear hr1 hc1
 have HR2 := Aside0.mk hr2
 have HC2 := Aside0.mk hc2
 clear hr2 hc2
 have HB := Aside0.mk (Below.refl w.heap.size w)
 have H : ((salchowref49_Few.f k l0).bind fun t248 => (if t248 = true then ((salchowref49_Few.f k l1).bind fun t249 => (if t249 = true then ((salchowref49_Few.f k l2).bind fun t250 => (if t250 = true then ((salchowref49_Lines.f k l0).bind fun t251 => (if t251 = true then ((salchowref49_Lines.f k l1).bind fun t252 => (if t252 = true then ((salchowref49_Lines.f k l2).bind fun t253 => (salchowlaw49_FrameMakes.j0 k l0 l1 l2 (!t253))) else (salchowlaw49_FrameMakes.j0 k l0 l1 l2 true))) else (salchowlaw49_FrameMakes.j0 k l0 l1 l2 true))) else (salchowlaw49_FrameMakes.j0 k l0 l1 l2 true))) else (salchowlaw49_FrameMakes.j0 k l0 l1 l2 true))) else (salchowlaw49_FrameMakes.j0 k l0 l1 l2 true))) = some r := h
 clear h
 have HC4 := Aside0.mk H
 clear H
 go_enter Tryd.func7, Tryd.ntmps7
 go_upto_region 1 with (fail)
 go_cut [44] (fun v44 wc => ∃ (kq : Nat) (x44_3 : Bool), v44 = .bool x44_3 ∧ Aside0 (salchowlaw49_FrameMakes.j0 kq l0 l1 l2 x44_3 = some r) ∧ Aside0 (kq ≤ k) ∧ Aside0 (Below w.heap.size w wc))
 case first =>
  have H := HC4.out
  clear HC4
  replace H := Option.bind_eq_some_iff.mp H
  obtain ⟨t248, A50, H⟩ := H
  replace H : (if t248 = true then ((salchowref49_Few.f k l1).bind fun t249 => (if t249 = true then ((salchowref49_Few.f k l2).bind fun t250 => (if t250 = true then ((salchowref49_Lines.f k l0).bind fun t251 => (if t251 = true then ((salchowref49_Lines.f k l1).bind fun t252 => (if t252 = true then ((salchowref49_Lines.f k l2).bind fun t253 => (salchowlaw49_FrameMakes.j0 k l0 l1 l2 (!t253))) else (salchowlaw49_FrameMakes.j0 k l0 l1 l2 true))) else (salchowlaw49_FrameMakes.j0 k l0 l1 l2 true))) else (salchowlaw49_FrameMakes.j0 k l0 l1 l2 true))) else (salchowlaw49_FrameMakes.j0 k l0 l1 l2 true))) else (salchowlaw49_FrameMakes.j0 k l0 l1 l2 true)) = some r := H
  have A5 := Aside0.mk A50
  clear A50
  by_cases c6 : t248 = true
  ·subst c6
   have H1 : ((salchowref49_Few.f k l1).bind fun t249 => (if t249 = true then ((salchowref49_Few.f k l2).bind fun t250 => (if t250 = true then ((salchowref49_Lines.f k l0).bind fun t251 => (if t251 = true then ((salchowref49_Lines.f k l1).bind fun t252 => (if t252 = true then ((salchowref49_Lines.f k l2).bind fun t253 => (salchowlaw49_FrameMakes.j0 k l0 l1 l2 (!t253))) else (salchowlaw49_FrameMakes.j0 k l0 l1 l2 true))) else (salchowlaw49_FrameMakes.j0 k l0 l1 l2 true))) else (salchowlaw49_FrameMakes.j0 k l0 l1 l2 true))) else (salchowlaw49_FrameMakes.j0 k l0 l1 l2 true))) = some r := by rw [if_pos rfl] at H; exact H
   clear H
   have H := H1
   clear H1
   replace H := Option.bind_eq_some_iff.mp H
   obtain ⟨t249, A70, H⟩ := H
   replace H : (if t249 = true then ((salchowref49_Few.f k l2).bind fun t250 => (if t250 = true then ((salchowref49_Lines.f k l0).bind fun t251 => (if t251 = true then ((salchowref49_Lines.f k l1).bind fun t252 => (if t252 = true then ((salchowref49_Lines.f k l2).bind fun t253 => (salchowlaw49_FrameMakes.j0 k l0 l1 l2 (!t253))) else (salchowlaw49_FrameMakes.j0 k l0 l1 l2 true))) else (salchowlaw49_FrameMakes.j0 k l0 l1 l2 true))) else (salchowlaw49_FrameMakes.j0 k l0 l1 l2 true))) else (salchowlaw49_FrameMakes.j0 k l0 l1 l2 true)) = some r := H
   have A7 := Aside0.mk A70
   clear A70
   by_cases c8 : t249 = true
   ·subst c8
    have H1 : ((salchowref49_Few.f k l2).bind fun t250 => (if t250 = true then ((salchowref49_Lines.f k l0).bind fun t251 => (if t251 = true then ((salchowref49_Lines.f k l1).bind fun t252 => (if t252 = true then ((salchowref49_Lines.f k l2).bind fun t253 => (salchowlaw49_FrameMakes.j0 k l0 l1 l2 (!t253))) else (salchowlaw49_FrameMakes.j0 k l0 l1 l2 true))) else (salchowlaw49_FrameMakes.j0 k l0 l1 l2 true))) else (salchowlaw49_FrameMakes.j0 k l0 l1 l2 true))) = some r := by rw [if_pos rfl] at H; exact H
    clear H
    have H := H1
    clear H1
    replace H := Option.bind_eq_some_iff.mp H
    obtain ⟨t250, A90, H⟩ := H
    replace H : (if t250 = true then ((salchowref49_Lines.f k l0).bind fun t251 => (if t251 = true then ((salchowref49_Lines.f k l1).bind fun t252 => (if t252 = true then ((salchowref49_Lines.f k l2).bind fun t253 => (salchowlaw49_FrameMakes.j0 k l0 l1 l2 (!t253))) else (salchowlaw49_FrameMakes.j0 k l0 l1 l2 true))) else (salchowlaw49_FrameMakes.j0 k l0 l1 l2 true))) else (salchowlaw49_FrameMakes.j0 k l0 l1 l2 true)) = some r := H
    have A9 := Aside0.mk A90
    clear A90
    by_cases c10 : t250 = true
    ·subst c10
     have H1 : ((salchowref49_Lines.f k l0).bind fun t251 => (if t251 = true then ((salchowref49_Lines.f k l1).bind fun t252 => (if t252 = true then ((salchowref49_Lines.f k l2).bind fun t253 => (salchowlaw49_FrameMakes.j0 k l0 l1 l2 (!t253))) else (salchowlaw49_FrameMakes.j0 k l0 l1 l2 true))) else (salchowlaw49_FrameMakes.j0 k l0 l1 l2 true))) = some r := by rw [if_pos rfl] at H; exact H
     clear H
     have H := H1
     clear H1
     replace H := Option.bind_eq_some_iff.mp H
     obtain ⟨t251, A110, H⟩ := H
     replace H : (if t251 = true then ((salchowref49_Lines.f k l1).bind fun t252 => (if t252 = true then ((salchowref49_Lines.f k l2).bind fun t253 => (salchowlaw49_FrameMakes.j0 k l0 l1 l2 (!t253))) else (salchowlaw49_FrameMakes.j0 k l0 l1 l2 true))) else (salchowlaw49_FrameMakes.j0 k l0 l1 l2 true)) = some r := H
     have A11 := Aside0.mk A110
     clear A110
     by_cases c12 : t251 = true
     ·subst c12
      have H1 : ((salchowref49_Lines.f k l1).bind fun t252 => (if t252 = true then ((salchowref49_Lines.f k l2).bind fun t253 => (salchowlaw49_FrameMakes.j0 k l0 l1 l2 (!t253))) else (salchowlaw49_FrameMakes.j0 k l0 l1 l2 true))) = some r := by rw [if_pos rfl] at H; exact H
      clear H
      have H := H1
      clear H1
      replace H := Option.bind_eq_some_iff.mp H
      obtain ⟨t252, A130, H⟩ := H
      replace H : (if t252 = true then ((salchowref49_Lines.f k l2).bind fun t253 => (salchowlaw49_FrameMakes.j0 k l0 l1 l2 (!t253))) else (salchowlaw49_FrameMakes.j0 k l0 l1 l2 true)) = some r := H
      have A13 := Aside0.mk A130
      clear A130
      by_cases c14 : t252 = true
      ·subst c14
       have H1 : ((salchowref49_Lines.f k l2).bind fun t253 => (salchowlaw49_FrameMakes.j0 k l0 l1 l2 (!t253))) = some r := by rw [if_pos rfl] at H; exact H
       clear H
       have H := H1
       clear H1
       replace H := Option.bind_eq_some_iff.mp H
       obtain ⟨t253, A150, H⟩ := H
       replace H : (salchowlaw49_FrameMakes.j0 k l0 l1 l2 (!t253)) = some r := H
       have A15 := Aside0.mk A150
       clear A150
       have H' := Aside0.mk H
       clear H
       go_wp2_with (first | ((with_reducible refine gate_callee (f := 16) rfl ?_); refine goesL_ (some 18) rfl rfl Tryd.func16 (by kernel_rfl) rfl #[.slice A0 l0.length c0] rfl (by (try simp only [List.map_toArray, List.map_cons, List.map_nil]); first | done | rfl | (simp only [List.length_drop, List.length_take]; rfl)) ?_; (with_reducible refine (salchowref49_Few.calls k _ _ l0 true _ ?side1 ?side2 A5.out).mono ?_); (case side1 => repeat (first | exact (Kd.C_below HR0.out HB.out) | (with_reducible refine Kd.C_alloc ?_ _) | (with_reducible refine Kd.C_drewN ?_ _) | (with_reducible refine Kd.C_drew ?_))); (case side2 => exact HC0.out); rintro e w' ⟨rfl, ⟨nd, rfl⟩⟩; refine ⟨_, rfl, ?_⟩) | (go_at_call 16; (with_reducible refine (salchowref49_Few.calls k _ _ l1 true _ ?side1 ?side2 A7.out).mono ?_); (case side1 => repeat (first | exact (Kd.C_below HR1.out (by repeat (first | (with_reducible first | exact HB.out | apply below_alloc | apply pw_below_drewN | apply below_drew1) | exact HB.out))) | (with_reducible refine Kd.C_alloc ?_ _) | (with_reducible refine Kd.C_drewN ?_ _) | (with_reducible refine Kd.C_drew ?_))); (case side2 => exact HC1.out); rintro e w' ⟨rfl, ⟨nd, rfl⟩⟩) | (go_at_call 16; (with_reducible refine (salchowref49_Few.calls k _ _ l2 true _ ?side1 ?side2 A9.out).mono ?_); (case side1 => repeat (first | exact (Kd.C_below HR2.out (by repeat (first | (with_reducible first | exact HB.out | apply below_alloc | apply pw_below_drewN | apply below_drew1) | exact HB.out))) | (with_reducible refine Kd.C_alloc ?_ _) | (with_reducible refine Kd.C_drewN ?_ _) | (with_reducible refine Kd.C_drew ?_))); (case side2 => exact HC2.out); rintro e w' ⟨rfl, ⟨nd, rfl⟩⟩) | (go_at_call 23; (with_reducible refine (salchowref49_Lines.calls k _ _ l0 true _ ?side1 ?side2 A11.out).mono ?_); (case side1 => repeat (first | exact (Kd.C_below HR0.out (by repeat (first | (with_reducible first | exact HB.out | apply below_alloc | apply pw_below_drewN | apply below_drew1) | exact HB.out))) | (with_reducible refine Kd.C_alloc ?_ _) | (with_reducible refine Kd.C_drewN ?_ _) | (with_reducible refine Kd.C_drew ?_))); (case side2 => exact HC0.out); rintro e w' ⟨rfl, ⟨nd, rfl⟩⟩) | (go_at_call 23; (with_reducible refine (salchowref49_Lines.calls k _ _ l1 true _ ?side1 ?side2 A13.out).mono ?_); (case side1 => repeat (first | exact (Kd.C_below HR1.out (by repeat (first | (with_reducible first | exact HB.out | apply below_alloc | apply pw_below_drewN | apply below_drew1) | exact HB.out))) | (with_reducible refine Kd.C_alloc ?_ _) | (with_reducible refine Kd.C_drewN ?_ _) | (with_reducible refine Kd.C_drew ?_))); (case side2 => exact HC1.out); rintro e w' ⟨rfl, ⟨nd, rfl⟩⟩) | (go_at_call 23; (with_reducible refine (salchowref49_Lines.calls k _ _ l2 t253 _ ?side1 ?side2 A15.out).mono ?_); (case side1 => repeat (first | exact (Kd.C_below HR2.out (by repeat (first | (with_reducible first | exact HB.out | apply below_alloc | apply pw_below_drewN | apply below_drew1) | exact HB.out))) | (with_reducible refine Kd.C_alloc ?_ _) | (with_reducible refine Kd.C_drewN ?_ _) | (with_reducible refine Kd.C_drew ?_))); (case side2 => exact HC2.out); rintro e w' ⟨rfl, ⟨nd, rfl⟩⟩))
       go_meet
       case rel => exact ⟨_, (!t253), (by first | rfl | (simp; done) | (simp [*]; done)), H', ⟨by first | omega | exact Nat.le_refl _⟩, ⟨by repeat (first | (with_reducible first | exact HB.out | apply below_alloc | apply pw_below_drewN | apply below_drew1) | exact HB.out)⟩⟩
      ·replace c14 := Bool.eq_false_iff.mpr c14
       subst c14
       have H1 : (salchowlaw49_FrameMakes.j0 k l0 l1 l2 true) = some r := by rw [if_neg (show ¬ (false = true) by decide)] at H; exact H
       clear H
       have H := H1
       clear H1
       have H' := Aside0.mk H
       clear H
       go_wp2_with (first | ((with_reducible refine gate_callee (f := 16) rfl ?_); refine goesL_ (some 18) rfl rfl Tryd.func16 (by kernel_rfl) rfl #[.slice A0 l0.length c0] rfl (by (try simp only [List.map_toArray, List.map_cons, List.map_nil]); first | done | rfl | (simp only [List.length_drop, List.length_take]; rfl)) ?_; (with_reducible refine (salchowref49_Few.calls k _ _ l0 true _ ?side1 ?side2 A5.out).mono ?_); (case side1 => repeat (first | exact (Kd.C_below HR0.out HB.out) | (with_reducible refine Kd.C_alloc ?_ _) | (with_reducible refine Kd.C_drewN ?_ _) | (with_reducible refine Kd.C_drew ?_))); (case side2 => exact HC0.out); rintro e w' ⟨rfl, ⟨nd, rfl⟩⟩; refine ⟨_, rfl, ?_⟩) | (go_at_call 16; (with_reducible refine (salchowref49_Few.calls k _ _ l1 true _ ?side1 ?side2 A7.out).mono ?_); (case side1 => repeat (first | exact (Kd.C_below HR1.out (by repeat (first | (with_reducible first | exact HB.out | apply below_alloc | apply pw_below_drewN | apply below_drew1) | exact HB.out))) | (with_reducible refine Kd.C_alloc ?_ _) | (with_reducible refine Kd.C_drewN ?_ _) | (with_reducible refine Kd.C_drew ?_))); (case side2 => exact HC1.out); rintro e w' ⟨rfl, ⟨nd, rfl⟩⟩) | (go_at_call 16; (with_reducible refine (salchowref49_Few.calls k _ _ l2 true _ ?side1 ?side2 A9.out).mono ?_); (case side1 => repeat (first | exact (Kd.C_below HR2.out (by repeat (first | (with_reducible first | exact HB.out | apply below_alloc | apply pw_below_drewN | apply below_drew1) | exact HB.out))) | (with_reducible refine Kd.C_alloc ?_ _) | (with_reducible refine Kd.C_drewN ?_ _) | (with_reducible refine Kd.C_drew ?_))); (case side2 => exact HC2.out); rintro e w' ⟨rfl, ⟨nd, rfl⟩⟩) | (go_at_call 23; (with_reducible refine (salchowref49_Lines.calls k _ _ l0 true _ ?side1 ?side2 A11.out).mono ?_); (case side1 => repeat (first | exact (Kd.C_below HR0.out (by repeat (first | (with_reducible first | exact HB.out | apply below_alloc | apply pw_below_drewN | apply below_drew1) | exact HB.out))) | (with_reducible refine Kd.C_alloc ?_ _) | (with_reducible refine Kd.C_drewN ?_ _) | (with_reducible refine Kd.C_drew ?_))); (case side2 => exact HC0.out); rintro e w' ⟨rfl, ⟨nd, rfl⟩⟩) | (go_at_call 23; (with_reducible refine (salchowref49_Lines.calls k _ _ l1 false _ ?side1 ?side2 A13.out).mono ?_); (case side1 => repeat (first | exact (Kd.C_below HR1.out (by repeat (first | (with_reducible first | exact HB.out | apply below_alloc | apply pw_below_drewN | apply below_drew1) | exact HB.out))) | (with_reducible refine Kd.C_alloc ?_ _) | (with_reducible refine Kd.C_drewN ?_ _) | (with_reducible refine Kd.C_drew ?_))); (case side2 => exact HC1.out); rintro e w' ⟨rfl, ⟨nd, rfl⟩⟩))
       go_meet
       case rel => exact ⟨_, (true), (by first | rfl | (simp; done) | (simp [*]; done)), H', ⟨by first | omega | exact Nat.le_refl _⟩, ⟨by repeat (first | (with_reducible first | exact HB.out | apply below_alloc | apply pw_below_drewN | apply below_drew1) | exact HB.out)⟩⟩
     ·replace c12 := Bool.eq_false_iff.mpr c12
      subst c12
      have H1 : (salchowlaw49_FrameMakes.j0 k l0 l1 l2 true) = some r := by rw [if_neg (show ¬ (false = true) by decide)] at H; exact H
      clear H
      have H := H1
      clear H1
      have H' := Aside0.mk H
      clear H
      go_wp2_with (first | ((with_reducible refine gate_callee (f := 16) rfl ?_); refine goesL_ (some 18) rfl rfl Tryd.func16 (by kernel_rfl) rfl #[.slice A0 l0.length c0] rfl (by (try simp only [List.map_toArray, List.map_cons, List.map_nil]); first | done | rfl | (simp only [List.length_drop, List.length_take]; rfl)) ?_; (with_reducible refine (salchowref49_Few.calls k _ _ l0 true _ ?side1 ?side2 A5.out).mono ?_); (case side1 => repeat (first | exact (Kd.C_below HR0.out HB.out) | (with_reducible refine Kd.C_alloc ?_ _) | (with_reducible refine Kd.C_drewN ?_ _) | (with_reducible refine Kd.C_drew ?_))); (case side2 => exact HC0.out); rintro e w' ⟨rfl, ⟨nd, rfl⟩⟩; refine ⟨_, rfl, ?_⟩) | (go_at_call 16; (with_reducible refine (salchowref49_Few.calls k _ _ l1 true _ ?side1 ?side2 A7.out).mono ?_); (case side1 => repeat (first | exact (Kd.C_below HR1.out (by repeat (first | (with_reducible first | exact HB.out | apply below_alloc | apply pw_below_drewN | apply below_drew1) | exact HB.out))) | (with_reducible refine Kd.C_alloc ?_ _) | (with_reducible refine Kd.C_drewN ?_ _) | (with_reducible refine Kd.C_drew ?_))); (case side2 => exact HC1.out); rintro e w' ⟨rfl, ⟨nd, rfl⟩⟩) | (go_at_call 16; (with_reducible refine (salchowref49_Few.calls k _ _ l2 true _ ?side1 ?side2 A9.out).mono ?_); (case side1 => repeat (first | exact (Kd.C_below HR2.out (by repeat (first | (with_reducible first | exact HB.out | apply below_alloc | apply pw_below_drewN | apply below_drew1) | exact HB.out))) | (with_reducible refine Kd.C_alloc ?_ _) | (with_reducible refine Kd.C_drewN ?_ _) | (with_reducible refine Kd.C_drew ?_))); (case side2 => exact HC2.out); rintro e w' ⟨rfl, ⟨nd, rfl⟩⟩) | (go_at_call 23; (with_reducible refine (salchowref49_Lines.calls k _ _ l0 false _ ?side1 ?side2 A11.out).mono ?_); (case side1 => repeat (first | exact (Kd.C_below HR0.out (by repeat (first | (with_reducible first | exact HB.out | apply below_alloc | apply pw_below_drewN | apply below_drew1) | exact HB.out))) | (with_reducible refine Kd.C_alloc ?_ _) | (with_reducible refine Kd.C_drewN ?_ _) | (with_reducible refine Kd.C_drew ?_))); (case side2 => exact HC0.out); rintro e w' ⟨rfl, ⟨nd, rfl⟩⟩))
      go_meet
      case rel => exact ⟨_, (true), (by first | rfl | (simp; done) | (simp [*]; done)), H', ⟨by first | omega | exact Nat.le_refl _⟩, ⟨by repeat (first | (with_reducible first | exact HB.out | apply below_alloc | apply pw_below_drewN | apply below_drew1) | exact HB.out)⟩⟩
    ·replace c10 := Bool.eq_false_iff.mpr c10
     subst c10
     have H1 : (salchowlaw49_FrameMakes.j0 k l0 l1 l2 true) = some r := by rw [if_neg (show ¬ (false = true) by decide)] at H; exact H
     clear H
     have H := H1
     clear H1
     have H' := Aside0.mk H
     clear H
     go_wp2_with (first | ((with_reducible refine gate_callee (f := 16) rfl ?_); refine goesL_ (some 18) rfl rfl Tryd.func16 (by kernel_rfl) rfl #[.slice A0 l0.length c0] rfl (by (try simp only [List.map_toArray, List.map_cons, List.map_nil]); first | done | rfl | (simp only [List.length_drop, List.length_take]; rfl)) ?_; (with_reducible refine (salchowref49_Few.calls k _ _ l0 true _ ?side1 ?side2 A5.out).mono ?_); (case side1 => repeat (first | exact (Kd.C_below HR0.out HB.out) | (with_reducible refine Kd.C_alloc ?_ _) | (with_reducible refine Kd.C_drewN ?_ _) | (with_reducible refine Kd.C_drew ?_))); (case side2 => exact HC0.out); rintro e w' ⟨rfl, ⟨nd, rfl⟩⟩; refine ⟨_, rfl, ?_⟩) | (go_at_call 16; (with_reducible refine (salchowref49_Few.calls k _ _ l1 true _ ?side1 ?side2 A7.out).mono ?_); (case side1 => repeat (first | exact (Kd.C_below HR1.out (by repeat (first | (with_reducible first | exact HB.out | apply below_alloc | apply pw_below_drewN | apply below_drew1) | exact HB.out))) | (with_reducible refine Kd.C_alloc ?_ _) | (with_reducible refine Kd.C_drewN ?_ _) | (with_reducible refine Kd.C_drew ?_))); (case side2 => exact HC1.out); rintro e w' ⟨rfl, ⟨nd, rfl⟩⟩) | (go_at_call 16; (with_reducible refine (salchowref49_Few.calls k _ _ l2 false _ ?side1 ?side2 A9.out).mono ?_); (case side1 => repeat (first | exact (Kd.C_below HR2.out (by repeat (first | (with_reducible first | exact HB.out | apply below_alloc | apply pw_below_drewN | apply below_drew1) | exact HB.out))) | (with_reducible refine Kd.C_alloc ?_ _) | (with_reducible refine Kd.C_drewN ?_ _) | (with_reducible refine Kd.C_drew ?_))); (case side2 => exact HC2.out); rintro e w' ⟨rfl, ⟨nd, rfl⟩⟩))
     go_meet
     case rel => exact ⟨_, (true), (by first | rfl | (simp; done) | (simp [*]; done)), H', ⟨by first | omega | exact Nat.le_refl _⟩, ⟨by repeat (first | (with_reducible first | exact HB.out | apply below_alloc | apply pw_below_drewN | apply below_drew1) | exact HB.out)⟩⟩
   ·replace c8 := Bool.eq_false_iff.mpr c8
    subst c8
    have H1 : (salchowlaw49_FrameMakes.j0 k l0 l1 l2 true) = some r := by rw [if_neg (show ¬ (false = true) by decide)] at H; exact H
    clear H
    have H := H1
    clear H1
    have H' := Aside0.mk H
    clear H
    go_wp2_with (first | ((with_reducible refine gate_callee (f := 16) rfl ?_); refine goesL_ (some 18) rfl rfl Tryd.func16 (by kernel_rfl) rfl #[.slice A0 l0.length c0] rfl (by (try simp only [List.map_toArray, List.map_cons, List.map_nil]); first | done | rfl | (simp only [List.length_drop, List.length_take]; rfl)) ?_; (with_reducible refine (salchowref49_Few.calls k _ _ l0 true _ ?side1 ?side2 A5.out).mono ?_); (case side1 => repeat (first | exact (Kd.C_below HR0.out HB.out) | (with_reducible refine Kd.C_alloc ?_ _) | (with_reducible refine Kd.C_drewN ?_ _) | (with_reducible refine Kd.C_drew ?_))); (case side2 => exact HC0.out); rintro e w' ⟨rfl, ⟨nd, rfl⟩⟩; refine ⟨_, rfl, ?_⟩) | (go_at_call 16; (with_reducible refine (salchowref49_Few.calls k _ _ l1 false _ ?side1 ?side2 A7.out).mono ?_); (case side1 => repeat (first | exact (Kd.C_below HR1.out (by repeat (first | (with_reducible first | exact HB.out | apply below_alloc | apply pw_below_drewN | apply below_drew1) | exact HB.out))) | (with_reducible refine Kd.C_alloc ?_ _) | (with_reducible refine Kd.C_drewN ?_ _) | (with_reducible refine Kd.C_drew ?_))); (case side2 => exact HC1.out); rintro e w' ⟨rfl, ⟨nd, rfl⟩⟩))
    go_meet
    case rel => exact ⟨_, (true), (by first | rfl | (simp; done) | (simp [*]; done)), H', ⟨by first | omega | exact Nat.le_refl _⟩, ⟨by repeat (first | (with_reducible first | exact HB.out | apply below_alloc | apply pw_below_drewN | apply below_drew1) | exact HB.out)⟩⟩
  ·replace c6 := Bool.eq_false_iff.mpr c6
   subst c6
   have H1 : (salchowlaw49_FrameMakes.j0 k l0 l1 l2 true) = some r := by rw [if_neg (show ¬ (false = true) by decide)] at H; exact H
   clear H
   have H := H1
   clear H1
   have H' := Aside0.mk H
   clear H
   go_wp2_with (first | ((with_reducible refine gate_callee (f := 16) rfl ?_); refine goesL_ (some 18) rfl rfl Tryd.func16 (by kernel_rfl) rfl #[.slice A0 l0.length c0] rfl (by (try simp only [List.map_toArray, List.map_cons, List.map_nil]); first | done | rfl | (simp only [List.length_drop, List.length_take]; rfl)) ?_; (with_reducible refine (salchowref49_Few.calls k _ _ l0 false _ ?side1 ?side2 A5.out).mono ?_); (case side1 => repeat (first | exact (Kd.C_below HR0.out HB.out) | (with_reducible refine Kd.C_alloc ?_ _) | (with_reducible refine Kd.C_drewN ?_ _) | (with_reducible refine Kd.C_drew ?_))); (case side2 => exact HC0.out); rintro e w' ⟨rfl, ⟨nd, rfl⟩⟩; refine ⟨_, rfl, ?_⟩))
   go_meet
   case rel => exact ⟨_, (true), (by first | rfl | (simp; done) | (simp [*]; done)), H', ⟨by first | omega | exact Nat.le_refl _⟩, ⟨by repeat (first | (with_reducible first | exact HB.out | apply below_alloc | apply pw_below_drewN | apply below_drew1) | exact HB.out)⟩⟩
 case rest =>
  clear HC4
  try clear c1
  try clear c2
  try clear p2
  try clear c6
  try clear c7
  try clear c8
  try clear c10
  try clear c12
  try clear c14
  obtain ⟨kq, x44_3, rfl, HA, HJ3, HB⟩ := hcut
  cases kq with
  | zero => exact absurd HA.out (by simp [salchowlaw49_FrameMakes.j0])
  | succ kj3 =>
   have H := HA.out
   clear HA
   simp only [salchowlaw49_FrameMakes.j0] at H
   by_cases c16 : x44_3 = true
   ·subst c16
    have H1 : ((Go.Proofs.YtfpopmojlmpopaaDoor.H.salchowlaw49_awake.f).bind fun t254 => (some t254)) = some r := by rw [if_pos rfl] at H; exact H
    clear H
    have H := H1
    clear H1
    replace H := Option.bind_eq_some_iff.mp H
    obtain ⟨t254, A170, H⟩ := H
    replace H : (some t254) = some r := H
    have A17 := Aside0.mk A170
    clear A170
    obtain rfl := Option.some.inj H
    go_wp2_with (first | ((with_reducible refine gate_callee (f := 10) rfl ?_); refine goesL_ (some 45) rfl rfl Tryd.func10 (by kernel_rfl) rfl #[] rfl (by (try simp only [List.map_toArray, List.map_cons, List.map_nil]); first | done | rfl | (simp only [List.length_drop, List.length_take]; rfl)) ?_; (with_reducible refine (Go.Proofs.YtfpopmojlmpopaaDoor.H.salchowlaw49_awake.calls  t254 _ ?side1 A17.out).mono ?_); (case side1 => exact Go.Proofs.YtfpopmojlmpopaaDoor.H.Laid.below HLd.out (by repeat (first | (with_reducible first | exact HB.out | apply below_alloc | apply pw_below_drewN | apply below_drew1) | exact HB.out))); rintro e w18 ⟨rfl, hb⟩; refine ⟨_, rfl, ?_⟩; have n0_ := Aside0.mk (below_step (by repeat (first | (with_reducible first | exact HB.out | apply below_alloc | apply pw_below_drewN | apply below_drew1) | exact HB.out)) hb); clear HB; have HB := n0_; clear n0_; (try clear hb); (try clear hb2); (try clear hk); (try clear hi)))
    go_ret
    exact ⟨by first | rfl | (simp [errW_none, errW_some] <;> rfl) | (simp [*, errW_none, errW_some] <;> rfl), by repeat (first | (with_reducible first | exact HB.out | apply below_alloc | apply pw_below_drewN | apply below_drew1) | exact HB.out)⟩
   ·replace c16 := Bool.eq_false_iff.mpr c16
    subst c16
    have H1 : ((Go.Proofs.YtfpopmojlmpopaaDoor.H.frame_Diff.f kj3 l0 l1).bind fun bt255 => ((Go.Proofs.YtfpopmojlmpopaaDoor.H.frame_Diff.f kj3 l1 l0).bind fun bt259 => ((Go.Proofs.YtfpopmojlmpopaaDoor.H.frame_Diff.f kj3 l1 l2).bind fun bt263 => ((Go.Proofs.YtfpopmojlmpopaaDoor.H.frame_Diff.f kj3 l0 l2).bind fun bt267 => (if bt255.2 = 0 then (if bt259.2 = 0 then (if bt263.2 = 0 then (salchowlaw49_FrameMakes.j1 kj3 l0 l1 bt255.1 bt259.1 bt263.1 bt267.1 (bt267.2 != 0)) else (salchowlaw49_FrameMakes.j1 kj3 l0 l1 bt255.1 bt259.1 bt263.1 bt267.1 true)) else (salchowlaw49_FrameMakes.j1 kj3 l0 l1 bt255.1 bt259.1 bt263.1 bt267.1 true)) else (salchowlaw49_FrameMakes.j1 kj3 l0 l1 bt255.1 bt259.1 bt263.1 bt267.1 true)))))) = some r := by rw [if_neg (show ¬ (false = true) by decide)] at H; exact H
    clear H
    have H := H1
    clear H1
    replace H := Option.bind_eq_some_iff.mp H
    obtain ⟨⟨t255, t256⟩, A190, H⟩ := H
    replace H : ((Go.Proofs.YtfpopmojlmpopaaDoor.H.frame_Diff.f kj3 l1 l0).bind fun bt259 => ((Go.Proofs.YtfpopmojlmpopaaDoor.H.frame_Diff.f kj3 l1 l2).bind fun bt263 => ((Go.Proofs.YtfpopmojlmpopaaDoor.H.frame_Diff.f kj3 l0 l2).bind fun bt267 => (if t256 = 0 then (if bt259.2 = 0 then (if bt263.2 = 0 then (salchowlaw49_FrameMakes.j1 kj3 l0 l1 t255 bt259.1 bt263.1 bt267.1 (bt267.2 != 0)) else (salchowlaw49_FrameMakes.j1 kj3 l0 l1 t255 bt259.1 bt263.1 bt267.1 true)) else (salchowlaw49_FrameMakes.j1 kj3 l0 l1 t255 bt259.1 bt263.1 bt267.1 true)) else (salchowlaw49_FrameMakes.j1 kj3 l0 l1 t255 bt259.1 bt263.1 bt267.1 true))))) = some r := H
    have A19 := Aside0.mk A190
    clear A190
    replace H := Option.bind_eq_some_iff.mp H
    obtain ⟨⟨t259, t260⟩, A200, H⟩ := H
    replace H : ((Go.Proofs.YtfpopmojlmpopaaDoor.H.frame_Diff.f kj3 l1 l2).bind fun bt263 => ((Go.Proofs.YtfpopmojlmpopaaDoor.H.frame_Diff.f kj3 l0 l2).bind fun bt267 => (if t256 = 0 then (if t260 = 0 then (if bt263.2 = 0 then (salchowlaw49_FrameMakes.j1 kj3 l0 l1 t255 t259 bt263.1 bt267.1 (bt267.2 != 0)) else (salchowlaw49_FrameMakes.j1 kj3 l0 l1 t255 t259 bt263.1 bt267.1 true)) else (salchowlaw49_FrameMakes.j1 kj3 l0 l1 t255 t259 bt263.1 bt267.1 true)) else (salchowlaw49_FrameMakes.j1 kj3 l0 l1 t255 t259 bt263.1 bt267.1 true)))) = some r := H
    have A20 := Aside0.mk A200
    clear A200
    replace H := Option.bind_eq_some_iff.mp H
    obtain ⟨⟨t263, t264⟩, A210, H⟩ := H
    replace H : ((Go.Proofs.YtfpopmojlmpopaaDoor.H.frame_Diff.f kj3 l0 l2).bind fun bt267 => (if t256 = 0 then (if t260 = 0 then (if t264 = 0 then (salchowlaw49_FrameMakes.j1 kj3 l0 l1 t255 t259 t263 bt267.1 (bt267.2 != 0)) else (salchowlaw49_FrameMakes.j1 kj3 l0 l1 t255 t259 t263 bt267.1 true)) else (salchowlaw49_FrameMakes.j1 kj3 l0 l1 t255 t259 t263 bt267.1 true)) else (salchowlaw49_FrameMakes.j1 kj3 l0 l1 t255 t259 t263 bt267.1 true))) = some r := H
    have A21 := Aside0.mk A210
    clear A210
    replace H := Option.bind_eq_some_iff.mp H
    obtain ⟨⟨t267, t268⟩, A220, H⟩ := H
    replace H : (if t256 = 0 then (if t260 = 0 then (if t264 = 0 then (salchowlaw49_FrameMakes.j1 kj3 l0 l1 t255 t259 t263 t267 (t268 != 0)) else (salchowlaw49_FrameMakes.j1 kj3 l0 l1 t255 t259 t263 t267 true)) else (salchowlaw49_FrameMakes.j1 kj3 l0 l1 t255 t259 t263 t267 true)) else (salchowlaw49_FrameMakes.j1 kj3 l0 l1 t255 t259 t263 t267 true)) = some r := H
    have A22 := Aside0.mk A220
    clear A220
    have HC23 := Aside0.mk H
    clear H
    go_upto_region 7 with (first | ((with_reducible refine gate_callee (f := 20) rfl ?_); refine goesL_ (some 49) rfl rfl Tryd.func20 (by kernel_rfl) rfl #[.slice A0 l0.length c0, .slice A1 l1.length c1] rfl (by (try simp only [List.map_toArray, List.map_cons, List.map_nil]); first | done | rfl | (simp only [List.length_drop, List.length_take]; rfl)) ?_; (with_reducible refine (Go.Proofs.YtfpopmojlmpopaaDoor.H.frame_Diff.calls kj3 _ _ l0 _ _ l1 t255 t256 _ ?side1 ?side2 ?side3 ?side4 A19.out).mono ?_); (case side1 => repeat (first | exact (Kd.C_below HR0.out HB.out) | (with_reducible refine Kd.C_alloc ?_ _) | (with_reducible refine Kd.C_drewN ?_ _) | (with_reducible refine Kd.C_drew ?_))); (case side2 => exact HC0.out); (case side3 => repeat (first | exact (Kd.C_below HR1.out HB.out) | (with_reducible refine Kd.C_alloc ?_ _) | (with_reducible refine Kd.C_drewN ?_ _) | (with_reducible refine Kd.C_drew ?_))); (case side4 => exact HC1.out); rintro e w24 ⟨v257, rfl, ho0, hb⟩; refine ⟨_, rfl, ?_⟩; have n0_ := Aside0.mk (Kd.S_lower ho0 (below_size (by repeat (first | (with_reducible first | exact HB.out | apply below_alloc | apply pw_below_drewN | apply below_drew1) | exact HB.out)))); have n1_ := Aside0.mk (below_step (by repeat (first | (with_reducible first | exact HB.out | apply below_alloc | apply pw_below_drewN | apply below_drew1) | exact HB.out)) hb); clear HB; have HO258 := n0_; have HB := n1_; clear n0_ n1_; (try clear hb); (try clear hb2); (try clear hk); (try clear hi); (try clear ho0)) | ((with_reducible refine gate_callee (f := 20) rfl ?_); refine goesL_ (some 55) rfl rfl Tryd.func20 (by kernel_rfl) rfl #[.slice A1 l1.length c1, .slice A0 l0.length c0] rfl (by (try simp only [List.map_toArray, List.map_cons, List.map_nil]); first | done | rfl | (simp only [List.length_drop, List.length_take]; rfl)) ?_; (with_reducible refine (Go.Proofs.YtfpopmojlmpopaaDoor.H.frame_Diff.calls kj3 _ _ l1 _ _ l0 t259 t260 _ ?side1 ?side2 ?side3 ?side4 A20.out).mono ?_); (case side1 => repeat (first | exact (Kd.C_below HR1.out HB.out) | (with_reducible refine Kd.C_alloc ?_ _) | (with_reducible refine Kd.C_drewN ?_ _) | (with_reducible refine Kd.C_drew ?_))); (case side2 => exact HC1.out); (case side3 => repeat (first | exact (Kd.C_below HR0.out HB.out) | (with_reducible refine Kd.C_alloc ?_ _) | (with_reducible refine Kd.C_drewN ?_ _) | (with_reducible refine Kd.C_drew ?_))); (case side4 => exact HC0.out); rintro e w25 ⟨v261, rfl, ho0, hb⟩; refine ⟨_, rfl, ?_⟩; have n0_ := Aside0.mk (Kd.S_elder' (by (with_reducible repeat (first | apply Kd.S_alloc | apply Kd.S_drewN | apply Kd.S_drew)); exact HO258.out) (Kd.S_base ho0) hb); have n1_ := Aside0.mk (Kd.S_lower (Kd.S_new' ho0 (Kd.S_lt (by (with_reducible repeat (first | apply Kd.S_alloc | apply Kd.S_drewN | apply Kd.S_drew)); exact HO258.out))) (below_size (by repeat (first | (with_reducible first | exact HB.out | apply below_alloc | apply pw_below_drewN | apply below_drew1) | exact HB.out)))); have n2_ := Aside0.mk (below_step (by repeat (first | (with_reducible first | exact HB.out | apply below_alloc | apply pw_below_drewN | apply below_drew1) | exact HB.out)) hb); clear HO258; clear HB; have HO258 := n0_; have HO262 := n1_; have HB := n2_; clear n0_ n1_ n2_; (try clear hb); (try clear hb2); (try clear hk); (try clear hi); (try clear ho0)) | ((with_reducible refine gate_callee (f := 20) rfl ?_); refine goesL_ (some 61) rfl rfl Tryd.func20 (by kernel_rfl) rfl #[.slice A1 l1.length c1, .slice A2 l2.length c2] rfl (by (try simp only [List.map_toArray, List.map_cons, List.map_nil]); first | done | rfl | (simp only [List.length_drop, List.length_take]; rfl)) ?_; (with_reducible refine (Go.Proofs.YtfpopmojlmpopaaDoor.H.frame_Diff.calls kj3 _ _ l1 _ _ l2 t263 t264 _ ?side1 ?side2 ?side3 ?side4 A21.out).mono ?_); (case side1 => repeat (first | exact (Kd.C_below HR1.out HB.out) | (with_reducible refine Kd.C_alloc ?_ _) | (with_reducible refine Kd.C_drewN ?_ _) | (with_reducible refine Kd.C_drew ?_))); (case side2 => exact HC1.out); (case side3 => repeat (first | exact (Kd.C_below HR2.out HB.out) | (with_reducible refine Kd.C_alloc ?_ _) | (with_reducible refine Kd.C_drewN ?_ _) | (with_reducible refine Kd.C_drew ?_))); (case side4 => exact HC2.out); rintro e w26 ⟨v265, rfl, ho0, hb⟩; refine ⟨_, rfl, ?_⟩; have n0_ := Aside0.mk (Kd.S_elder' (by (with_reducible repeat (first | apply Kd.S_alloc | apply Kd.S_drewN | apply Kd.S_drew)); exact HO258.out) (Kd.S_base ho0) hb); have n1_ := Aside0.mk (Kd.S_elder' (by (with_reducible repeat (first | apply Kd.S_alloc | apply Kd.S_drewN | apply Kd.S_drew)); exact HO262.out) (Kd.S_base ho0) hb); have n2_ := Aside0.mk (Kd.S_lower (Kd.S_new' (Kd.S_new' ho0 (Kd.S_lt (by (with_reducible repeat (first | apply Kd.S_alloc | apply Kd.S_drewN | apply Kd.S_drew)); exact HO258.out))) (Kd.S_lt (by (with_reducible repeat (first | apply Kd.S_alloc | apply Kd.S_drewN | apply Kd.S_drew)); exact HO262.out))) (below_size (by repeat (first | (with_reducible first | exact HB.out | apply below_alloc | apply pw_below_drewN | apply below_drew1) | exact HB.out)))); have n3_ := Aside0.mk (below_step (by repeat (first | (with_reducible first | exact HB.out | apply below_alloc | apply pw_below_drewN | apply below_drew1) | exact HB.out)) hb); clear HO258; clear HO262; clear HB; have HO258 := n0_; have HO262 := n1_; have HO266 := n2_; have HB := n3_; clear n0_ n1_ n2_ n3_; (try clear hb); (try clear hb2); (try clear hk); (try clear hi); (try clear ho0)) | ((with_reducible refine gate_callee (f := 20) rfl ?_); refine goesL_ (some 67) rfl rfl Tryd.func20 (by kernel_rfl) rfl #[.slice A0 l0.length c0, .slice A2 l2.length c2] rfl (by (try simp only [List.map_toArray, List.map_cons, List.map_nil]); first | done | rfl | (simp only [List.length_drop, List.length_take]; rfl)) ?_; (with_reducible refine (Go.Proofs.YtfpopmojlmpopaaDoor.H.frame_Diff.calls kj3 _ _ l0 _ _ l2 t267 t268 _ ?side1 ?side2 ?side3 ?side4 A22.out).mono ?_); (case side1 => repeat (first | exact (Kd.C_below HR0.out HB.out) | (with_reducible refine Kd.C_alloc ?_ _) | (with_reducible refine Kd.C_drewN ?_ _) | (with_reducible refine Kd.C_drew ?_))); (case side2 => exact HC0.out); (case side3 => repeat (first | exact (Kd.C_below HR2.out HB.out) | (with_reducible refine Kd.C_alloc ?_ _) | (with_reducible refine Kd.C_drewN ?_ _) | (with_reducible refine Kd.C_drew ?_))); (case side4 => exact HC2.out); rintro e w27 ⟨v269, rfl, ho0, hb⟩; refine ⟨_, rfl, ?_⟩; have n0_ := Aside0.mk (Kd.S_elder' (by (with_reducible repeat (first | apply Kd.S_alloc | apply Kd.S_drewN | apply Kd.S_drew)); exact HO258.out) (Kd.S_base ho0) hb); have n1_ := Aside0.mk (Kd.S_elder' (by (with_reducible repeat (first | apply Kd.S_alloc | apply Kd.S_drewN | apply Kd.S_drew)); exact HO262.out) (Kd.S_base ho0) hb); have n2_ := Aside0.mk (Kd.S_elder' (by (with_reducible repeat (first | apply Kd.S_alloc | apply Kd.S_drewN | apply Kd.S_drew)); exact HO266.out) (Kd.S_base ho0) hb); have n3_ := Aside0.mk (Kd.S_lower (Kd.S_new' (Kd.S_new' (Kd.S_new' ho0 (Kd.S_lt (by (with_reducible repeat (first | apply Kd.S_alloc | apply Kd.S_drewN | apply Kd.S_drew)); exact HO258.out))) (Kd.S_lt (by (with_reducible repeat (first | apply Kd.S_alloc | apply Kd.S_drewN | apply Kd.S_drew)); exact HO262.out))) (Kd.S_lt (by (with_reducible repeat (first | apply Kd.S_alloc | apply Kd.S_drewN | apply Kd.S_drew)); exact HO266.out))) (below_size (by repeat (first | (with_reducible first | exact HB.out | apply below_alloc | apply pw_below_drewN | apply below_drew1) | exact HB.out)))); have n4_ := Aside0.mk (below_step (by repeat (first | (with_reducible first | exact HB.out | apply below_alloc | apply pw_below_drewN | apply below_drew1) | exact HB.out)) hb); clear HO258; clear HO262; clear HO266; clear HB; have HO258 := n0_; have HO262 := n1_; have HO266 := n2_; have HO270 := n3_; have HB := n4_; clear n0_ n1_ n2_ n3_ n4_; (try clear hb); (try clear hb2); (try clear hk); (try clear hi); (try clear ho0)))
    (try simp only [Act.put, sA_, sB_, sC_])
    go_cut [83] (fun v83 wc => ∃ (kq : Nat) (x83_22 : Bool), v83 = .bool x83_22 ∧ Aside0 (salchowlaw49_FrameMakes.j1 kq l0 l1 t255 t259 t263 t267 x83_22 = some r) ∧ Aside0 (kq ≤ kj3) ∧ Aside0 (Kd.S k52 52 wc w.heap.size (fun k_ => some k_ ≠ (v261 : Value).ownBlock ∧ some k_ ≠ (v265 : Value).ownBlock ∧ some k_ ≠ (v269 : Value).ownBlock) v257 t255) ∧ Aside0 (Kd.S k52 52 wc w.heap.size (fun k_ => some k_ ≠ (v257 : Value).ownBlock ∧ some k_ ≠ (v265 : Value).ownBlock ∧ some k_ ≠ (v269 : Value).ownBlock) v261 t259) ∧ Aside0 (Kd.S k52 52 wc w.heap.size (fun k_ => some k_ ≠ (v257 : Value).ownBlock ∧ some k_ ≠ (v261 : Value).ownBlock ∧ some k_ ≠ (v269 : Value).ownBlock) v265 t263) ∧ Aside0 (Kd.S k52 52 wc w.heap.size (fun k_ => some k_ ≠ (v257 : Value).ownBlock ∧ some k_ ≠ (v261 : Value).ownBlock ∧ some k_ ≠ (v265 : Value).ownBlock) v269 t267) ∧ Aside0 (Below w.heap.size w wc))
    case first =>
     have H := HC23.out
     clear HC23
     by_cases c28 : t256 = 0
     ·rw [if_pos c28] at H
      have c28b0 : (t256 == 0) = true := beq_iff_eq.mpr c28
      have c28b1 : (t256 != 0) = false := bne_eq_false_iff_eq.mpr c28
      clear c28
      (first | rw [c28b0] | (simp only [i64_w, i32_w]; rw [c28b0]) | skip)
      by_cases c29 : t260 = 0
      ·rw [if_pos c29] at H
       have c29b0 : (t260 == 0) = true := beq_iff_eq.mpr c29
       have c29b1 : (t260 != 0) = false := bne_eq_false_iff_eq.mpr c29
       clear c29
       by_cases c30 : t264 = 0
       ·rw [if_pos c30] at H
        have c30b0 : (t264 == 0) = true := beq_iff_eq.mpr c30
        have c30b1 : (t264 != 0) = false := bne_eq_false_iff_eq.mpr c30
        clear c30
        have H' := Aside0.mk H
        clear H
        go_wp2
        go_meet
        case rel => exact ⟨_, ((t268 != 0)), (by first | rfl | (simp; done) | (simp [*]; done)), H', ⟨by have := HJ3.out; first | omega | exact Nat.le_refl _⟩, ⟨by (with_reducible repeat (first | apply Kd.S_alloc | apply Kd.S_drewN | apply Kd.S_drew)); exact Kd.S_mono HO258.out (fun _ hk => ⟨hk.1.1.2, ⟨hk.1.2, hk.2⟩⟩)⟩, ⟨by (with_reducible repeat (first | apply Kd.S_alloc | apply Kd.S_drewN | apply Kd.S_drew)); exact Kd.S_mono HO262.out (fun _ hk => ⟨hk.1.1.2, ⟨hk.1.2, hk.2⟩⟩)⟩, ⟨by (with_reducible repeat (first | apply Kd.S_alloc | apply Kd.S_drewN | apply Kd.S_drew)); exact Kd.S_mono HO266.out (fun _ hk => ⟨hk.1.1.2, ⟨hk.1.2, hk.2⟩⟩)⟩, ⟨by (with_reducible repeat (first | apply Kd.S_alloc | apply Kd.S_drewN | apply Kd.S_drew)); exact Kd.S_mono HO270.out (fun _ hk => ⟨hk.1.1.2, ⟨hk.1.2, hk.2⟩⟩)⟩, ⟨by repeat (first | (with_reducible first | exact HB.out | apply below_alloc | apply pw_below_drewN | apply below_drew1) | exact HB.out)⟩⟩
       ·rw [if_neg c30] at H
        have c30b0 : (t264 == 0) = false := beq_eq_false_iff_ne.mpr c30
        have c30b1 : (t264 != 0) = true := bne_iff_ne.mpr c30
        have H' := Aside0.mk H
        clear H
        go_wp2
        go_meet
        case rel => exact ⟨_, (true), (by first | rfl | (simp; done) | (simp [*]; done)), H', ⟨by have := HJ3.out; first | omega | exact Nat.le_refl _⟩, ⟨by (with_reducible repeat (first | apply Kd.S_alloc | apply Kd.S_drewN | apply Kd.S_drew)); exact Kd.S_mono HO258.out (fun _ hk => ⟨hk.1.1.2, ⟨hk.1.2, hk.2⟩⟩)⟩, ⟨by (with_reducible repeat (first | apply Kd.S_alloc | apply Kd.S_drewN | apply Kd.S_drew)); exact Kd.S_mono HO262.out (fun _ hk => ⟨hk.1.1.2, ⟨hk.1.2, hk.2⟩⟩)⟩, ⟨by (with_reducible repeat (first | apply Kd.S_alloc | apply Kd.S_drewN | apply Kd.S_drew)); exact Kd.S_mono HO266.out (fun _ hk => ⟨hk.1.1.2, ⟨hk.1.2, hk.2⟩⟩)⟩, ⟨by (with_reducible repeat (first | apply Kd.S_alloc | apply Kd.S_drewN | apply Kd.S_drew)); exact Kd.S_mono HO270.out (fun _ hk => ⟨hk.1.1.2, ⟨hk.1.2, hk.2⟩⟩)⟩, ⟨by repeat (first | (with_reducible first | exact HB.out | apply below_alloc | apply pw_below_drewN | apply below_drew1) | exact HB.out)⟩⟩
      ·rw [if_neg c29] at H
       have c29b0 : (t260 == 0) = false := beq_eq_false_iff_ne.mpr c29
       have c29b1 : (t260 != 0) = true := bne_iff_ne.mpr c29
       have H' := Aside0.mk H
       clear H
       go_wp2
       go_meet
       case rel => exact ⟨_, (true), (by first | rfl | (simp; done) | (simp [*]; done)), H', ⟨by have := HJ3.out; first | omega | exact Nat.le_refl _⟩, ⟨by (with_reducible repeat (first | apply Kd.S_alloc | apply Kd.S_drewN | apply Kd.S_drew)); exact Kd.S_mono HO258.out (fun _ hk => ⟨hk.1.1.2, ⟨hk.1.2, hk.2⟩⟩)⟩, ⟨by (with_reducible repeat (first | apply Kd.S_alloc | apply Kd.S_drewN | apply Kd.S_drew)); exact Kd.S_mono HO262.out (fun _ hk => ⟨hk.1.1.2, ⟨hk.1.2, hk.2⟩⟩)⟩, ⟨by (with_reducible repeat (first | apply Kd.S_alloc | apply Kd.S_drewN | apply Kd.S_drew)); exact Kd.S_mono HO266.out (fun _ hk => ⟨hk.1.1.2, ⟨hk.1.2, hk.2⟩⟩)⟩, ⟨by (with_reducible repeat (first | apply Kd.S_alloc | apply Kd.S_drewN | apply Kd.S_drew)); exact Kd.S_mono HO270.out (fun _ hk => ⟨hk.1.1.2, ⟨hk.1.2, hk.2⟩⟩)⟩, ⟨by repeat (first | (with_reducible first | exact HB.out | apply below_alloc | apply pw_below_drewN | apply below_drew1) | exact HB.out)⟩⟩
     ·rw [if_neg c28] at H
      have c28b0 : (t256 == 0) = false := beq_eq_false_iff_ne.mpr c28
      have c28b1 : (t256 != 0) = true := bne_iff_ne.mpr c28
      (first | rw [c28b0] | (simp only [i64_w, i32_w]; rw [c28b0]) | skip)
      have H' := Aside0.mk H
      clear H
      go_wp2
      go_meet
      case rel => exact ⟨_, (true), (by first | rfl | (simp; done) | (simp [*]; done)), H', ⟨by have := HJ3.out; first | omega | exact Nat.le_refl _⟩, ⟨by (with_reducible repeat (first | apply Kd.S_alloc | apply Kd.S_drewN | apply Kd.S_drew)); exact Kd.S_mono HO258.out (fun _ hk => ⟨hk.1.1.2, ⟨hk.1.2, hk.2⟩⟩)⟩, ⟨by (with_reducible repeat (first | apply Kd.S_alloc | apply Kd.S_drewN | apply Kd.S_drew)); exact Kd.S_mono HO262.out (fun _ hk => ⟨hk.1.1.2, ⟨hk.1.2, hk.2⟩⟩)⟩, ⟨by (with_reducible repeat (first | apply Kd.S_alloc | apply Kd.S_drewN | apply Kd.S_drew)); exact Kd.S_mono HO266.out (fun _ hk => ⟨hk.1.1.2, ⟨hk.1.2, hk.2⟩⟩)⟩, ⟨by (with_reducible repeat (first | apply Kd.S_alloc | apply Kd.S_drewN | apply Kd.S_drew)); exact Kd.S_mono HO270.out (fun _ hk => ⟨hk.1.1.2, ⟨hk.1.2, hk.2⟩⟩)⟩, ⟨by repeat (first | (with_reducible first | exact HB.out | apply below_alloc | apply pw_below_drewN | apply below_drew1) | exact HB.out)⟩⟩
    case rest =>
     clear HC23
     try clear c1
     try clear c2
     try clear p2
     try clear c3
     try clear c6
     try clear c7
     try clear c8
     try clear c10
     try clear c12
     try clear c14
     try clear c16
     try clear c20
     try clear c28
     try clear c28b0
     try clear c28b1
     try clear c29
     try clear c29b0
     try clear c29b1
     try clear c30
     try clear c30b0
     try clear c30b1
     try clear p2
     obtain ⟨kq, x83_22, rfl, HA, HJ22, HO_7, HO_9, HO_11, HO_13, HB⟩ := hcut
     cases kq with
     | zero => exact absurd HA.out (by simp [salchowlaw49_FrameMakes.j1])
     | succ kj22 =>
      have H := HA.out
      clear HA
      simp only [salchowlaw49_FrameMakes.j1] at H
      by_cases c31 : x83_22 = true
      ·subst c31
       have H1 : (some false) = some r := by rw [if_pos rfl] at H; exact H
       clear H
       have H := H1
       clear H1
       obtain rfl := Option.some.inj H
       go_wp2
       go_ret
       exact ⟨by first | rfl | (simp [errW_none, errW_some] <;> rfl) | (simp [*, errW_none, errW_some] <;> rfl), by repeat (first | (with_reducible first | exact HB.out | apply below_alloc | apply pw_below_drewN | apply below_drew1) | exact HB.out)⟩
      ·replace c31 := Bool.eq_false_iff.mpr c31
       subst c31
       have H1 : ((frame_Apply.f kj22 l0 t255).bind fun bt271 => ((Go.Proofs.YtfpopmojlmpopaaDoor.H.salchowlaw49_awake.f).bind fun t275 => (if t275 = true then (if bt271.2 = 0 then ((salchowref49_SameLines.f kj22 bt271.1 l1).bind fun t276 => (if t276 = true then ((salchowref49_SameLines.f kj22 l0 l1).bind fun t277 => (if (((t255.length : Int) == 0) == t277) = true then ((salchowref49_Cost.f kj22 t255).bind fun t278 => ((salchowref49_Cost.f kj22 t259).bind fun t279 => (if t278 = t279 then ((salchowref49_Cost.f kj22 t267).bind fun t280 => ((salchowref49_Cost.f kj22 t255).bind fun t281 => ((salchowref49_Cost.f kj22 t263).bind fun t282 => (some (decide (t280 ≤ (wrap64 (t281 + t282)))))))) else (some false)))) else (some false))) else (some false))) else (some false)) else (some false)))) = some r := by rw [if_neg (show ¬ (false = true) by decide)] at H; exact H
       clear H
       have H := H1
       clear H1
       replace H := Option.bind_eq_some_iff.mp H
       obtain ⟨⟨t271, t272⟩, A320, H⟩ := H
       replace H : ((Go.Proofs.YtfpopmojlmpopaaDoor.H.salchowlaw49_awake.f).bind fun t275 => (if t275 = true then (if t272 = 0 then ((salchowref49_SameLines.f kj22 t271 l1).bind fun t276 => (if t276 = true then ((salchowref49_SameLines.f kj22 l0 l1).bind fun t277 => (if (((t255.length : Int) == 0) == t277) = true then ((salchowref49_Cost.f kj22 t255).bind fun t278 => ((salchowref49_Cost.f kj22 t259).bind fun t279 => (if t278 = t279 then ((salchowref49_Cost.f kj22 t267).bind fun t280 => ((salchowref49_Cost.f kj22 t255).bind fun t281 => ((salchowref49_Cost.f kj22 t263).bind fun t282 => (some (decide (t280 ≤ (wrap64 (t281 + t282)))))))) else (some false)))) else (some false))) else (some false))) else (some false)) else (some false))) = some r := H
       have A32 := Aside0.mk A320
       clear A320
       replace H := Option.bind_eq_some_iff.mp H
       obtain ⟨t275, A330, H⟩ := H
       replace H : (if t275 = true then (if t272 = 0 then ((salchowref49_SameLines.f kj22 t271 l1).bind fun t276 => (if t276 = true then ((salchowref49_SameLines.f kj22 l0 l1).bind fun t277 => (if (((t255.length : Int) == 0) == t277) = true then ((salchowref49_Cost.f kj22 t255).bind fun t278 => ((salchowref49_Cost.f kj22 t259).bind fun t279 => (if t278 = t279 then ((salchowref49_Cost.f kj22 t267).bind fun t280 => ((salchowref49_Cost.f kj22 t255).bind fun t281 => ((salchowref49_Cost.f kj22 t263).bind fun t282 => (some (decide (t280 ≤ (wrap64 (t281 + t282)))))))) else (some false)))) else (some false))) else (some false))) else (some false)) else (some false)) = some r := H
       have A33 := Aside0.mk A330
       clear A330
       by_cases c34 : t275 = true
       ·subst c34
        have H1 : (if t272 = 0 then ((salchowref49_SameLines.f kj22 t271 l1).bind fun t276 => (if t276 = true then ((salchowref49_SameLines.f kj22 l0 l1).bind fun t277 => (if (((t255.length : Int) == 0) == t277) = true then ((salchowref49_Cost.f kj22 t255).bind fun t278 => ((salchowref49_Cost.f kj22 t259).bind fun t279 => (if t278 = t279 then ((salchowref49_Cost.f kj22 t267).bind fun t280 => ((salchowref49_Cost.f kj22 t255).bind fun t281 => ((salchowref49_Cost.f kj22 t263).bind fun t282 => (some (decide (t280 ≤ (wrap64 (t281 + t282)))))))) else (some false)))) else (some false))) else (some false))) else (some false)) = some r := by rw [if_pos rfl] at H; exact H
        clear H
        have H := H1
        clear H1
        by_cases c35 : t272 = 0
        ·rw [if_pos c35] at H
         have c35b0 : (t272 == 0) = true := beq_iff_eq.mpr c35
         have c35b1 : (t272 != 0) = false := bne_eq_false_iff_eq.mpr c35
         clear c35
         replace H := Option.bind_eq_some_iff.mp H
         obtain ⟨t276, A360, H⟩ := H
         replace H : (if t276 = true then ((salchowref49_SameLines.f kj22 l0 l1).bind fun t277 => (if (((t255.length : Int) == 0) == t277) = true then ((salchowref49_Cost.f kj22 t255).bind fun t278 => ((salchowref49_Cost.f kj22 t259).bind fun t279 => (if t278 = t279 then ((salchowref49_Cost.f kj22 t267).bind fun t280 => ((salchowref49_Cost.f kj22 t255).bind fun t281 => ((salchowref49_Cost.f kj22 t263).bind fun t282 => (some (decide (t280 ≤ (wrap64 (t281 + t282)))))))) else (some false)))) else (some false))) else (some false)) = some r := H
         have A36 := Aside0.mk A360
         clear A360
         by_cases c37 : t276 = true
         ·subst c37
          have H1 : ((salchowref49_SameLines.f kj22 l0 l1).bind fun t277 => (if (((t255.length : Int) == 0) == t277) = true then ((salchowref49_Cost.f kj22 t255).bind fun t278 => ((salchowref49_Cost.f kj22 t259).bind fun t279 => (if t278 = t279 then ((salchowref49_Cost.f kj22 t267).bind fun t280 => ((salchowref49_Cost.f kj22 t255).bind fun t281 => ((salchowref49_Cost.f kj22 t263).bind fun t282 => (some (decide (t280 ≤ (wrap64 (t281 + t282)))))))) else (some false)))) else (some false))) = some r := by rw [if_pos rfl] at H; exact H
          clear H
          have H := H1
          clear H1
          replace H := Option.bind_eq_some_iff.mp H
          obtain ⟨t277, A380, H⟩ := H
          replace H : (if (((t255.length : Int) == 0) == t277) = true then ((salchowref49_Cost.f kj22 t255).bind fun t278 => ((salchowref49_Cost.f kj22 t259).bind fun t279 => (if t278 = t279 then ((salchowref49_Cost.f kj22 t267).bind fun t280 => ((salchowref49_Cost.f kj22 t255).bind fun t281 => ((salchowref49_Cost.f kj22 t263).bind fun t282 => (some (decide (t280 ≤ (wrap64 (t281 + t282)))))))) else (some false)))) else (some false)) = some r := H
          have A38 := Aside0.mk A380
          clear A380
          by_cases c39 : (((t255.length : Int) == 0) == t277) = true
          ·rw [if_pos c39] at H
           have c39b0 : (((t255.length : Int) == 0) == t277) = true := c39
           (try (have c39b1 : decide (((t255.length : Int) == 0) = t277) = true := by simpa using c39))
           (try (have c39b2 : (((t255.length : Int) == 0) == t277) = true := by simpa using c39))
           clear c39
           replace H := Option.bind_eq_some_iff.mp H
           obtain ⟨t278, A400, H⟩ := H
           replace H : ((salchowref49_Cost.f kj22 t259).bind fun t279 => (if t278 = t279 then ((salchowref49_Cost.f kj22 t267).bind fun t280 => ((salchowref49_Cost.f kj22 t255).bind fun t281 => ((salchowref49_Cost.f kj22 t263).bind fun t282 => (some (decide (t280 ≤ (wrap64 (t281 + t282)))))))) else (some false))) = some r := H
           have A40 := Aside0.mk A400
           clear A400
           replace H := Option.bind_eq_some_iff.mp H
           obtain ⟨t279, A410, H⟩ := H
           replace H : (if t278 = t279 then ((salchowref49_Cost.f kj22 t267).bind fun t280 => ((salchowref49_Cost.f kj22 t255).bind fun t281 => ((salchowref49_Cost.f kj22 t263).bind fun t282 => (some (decide (t280 ≤ (wrap64 (t281 + t282)))))))) else (some false)) = some r := H
           have A41 := Aside0.mk A410
           clear A410
           by_cases c42 : t278 = t279
           ·rw [if_pos c42] at H
            have c42b0 : (t278 == t279) = true := beq_iff_eq.mpr c42
            have c42b1 : (t278 != t279) = false := bne_eq_false_iff_eq.mpr c42
            clear c42
            replace H := Option.bind_eq_some_iff.mp H
            obtain ⟨t280, A430, H⟩ := H
            replace H : ((salchowref49_Cost.f kj22 t255).bind fun t281 => ((salchowref49_Cost.f kj22 t263).bind fun t282 => (some (decide (t280 ≤ (wrap64 (t281 + t282))))))) = some r := H
            have A43 := Aside0.mk A430
            clear A430
            replace H := Option.bind_eq_some_iff.mp H
            obtain ⟨t281, A440, H⟩ := H
            replace H : ((salchowref49_Cost.f kj22 t263).bind fun t282 => (some (decide (t280 ≤ (wrap64 (t281 + t282)))))) = some r := H
            have A44 := Aside0.mk A440
            clear A440
            replace H := Option.bind_eq_some_iff.mp H
            obtain ⟨t282, A450, H⟩ := H
            replace H : (some (decide (t280 ≤ (wrap64 (t281 + t282))))) = some r := H
            have A45 := Aside0.mk A450
            clear A450
            obtain rfl := Option.some.inj H
            obtain ⟨Ao46, co46, eo46⟩ := Kd.S_slice HO_7.out
            subst eo46
            go_wp2_with (first | ((with_reducible refine gate_callee (f := 17) rfl ?_); refine goesL_ (some 87) rfl rfl Tryd.func17 (by kernel_rfl) rfl #[.slice A0 l0.length c0, .slice Ao46 t255.length co46] rfl (by (try simp only [List.map_toArray, List.map_cons, List.map_nil]); first | done | rfl | (simp only [List.length_drop, List.length_take]; rfl)) ?_; (with_reducible refine (frame_Apply.calls kj22 _ _ l0 _ _ t255 t271 t272 _ ?side1 ?side2 ?side3 ?side4 A32.out).mono ?_); (case side1 => repeat (first | exact (Kd.C_below HR0.out HB.out) | (with_reducible refine Kd.C_alloc ?_ _) | (with_reducible refine Kd.C_drewN ?_ _) | (with_reducible refine Kd.C_drew ?_))); (case side2 => exact HC0.out); (case side3 => repeat (first | exact (Kd.S_reads' HO_7.out).2.2 | (with_reducible refine Kd.C_alloc ?_ _) | (with_reducible refine Kd.C_drewN ?_ _) | (with_reducible refine Kd.C_drew ?_))); (case side4 => exact (Kd.S_reads' HO_7.out).2.1); rintro e w47 ⟨v273, rfl, ho0, hb⟩; refine ⟨_, rfl, ?_⟩; have n0_ := Aside0.mk (Kd.S_elder' (by (with_reducible repeat (first | apply Kd.S_alloc | apply Kd.S_drewN | apply Kd.S_drew)); exact HO_7.out) (Kd.R_base ho0) hb); have n1_ := Aside0.mk (Kd.S_elder' (by (with_reducible repeat (first | apply Kd.S_alloc | apply Kd.S_drewN | apply Kd.S_drew)); exact HO_9.out) (Kd.R_base ho0) hb); have n2_ := Aside0.mk (Kd.S_elder' (by (with_reducible repeat (first | apply Kd.S_alloc | apply Kd.S_drewN | apply Kd.S_drew)); exact HO_11.out) (Kd.R_base ho0) hb); have n3_ := Aside0.mk (Kd.S_elder' (by (with_reducible repeat (first | apply Kd.S_alloc | apply Kd.S_drewN | apply Kd.S_drew)); exact HO_13.out) (Kd.R_base ho0) hb); have n4_ := Aside0.mk (Kd.R_lower ho0 (below_size (by repeat (first | (with_reducible first | exact HB.out | apply below_alloc | apply pw_below_drewN | apply below_drew1) | exact HB.out)))); have n5_ := Aside0.mk (below_step (by repeat (first | (with_reducible first | exact HB.out | apply below_alloc | apply pw_below_drewN | apply below_drew1) | exact HB.out)) hb); clear HO_7; clear HO_9; clear HO_11; clear HO_13; clear HB; have HO_7 := n0_; have HO_9 := n1_; have HO_11 := n2_; have HO_13 := n3_; have HO274 := n4_; have HB := n5_; clear n0_ n1_ n2_ n3_ n4_ n5_; (try clear hb); (try clear hb2); (try clear hk); (try clear hi); (try clear ho0)) | ((with_reducible refine gate_callee (f := 10) rfl ?_); refine goesL_ (some 90) rfl rfl Tryd.func10 (by kernel_rfl) rfl #[] rfl (by (try simp only [List.map_toArray, List.map_cons, List.map_nil]); first | done | rfl | (simp only [List.length_drop, List.length_take]; rfl)) ?_; (with_reducible refine (Go.Proofs.YtfpopmojlmpopaaDoor.H.salchowlaw49_awake.calls  true _ ?side1 A33.out).mono ?_); (case side1 => exact Go.Proofs.YtfpopmojlmpopaaDoor.H.Laid.below HLd.out (by repeat (first | (with_reducible first | exact HB.out | apply below_alloc | apply pw_below_drewN | apply below_drew1) | exact HB.out))); rintro e w48 ⟨rfl, hb⟩; refine ⟨_, rfl, ?_⟩; have n0_ := Aside0.mk (Kd.S_below (by (with_reducible repeat (first | apply Kd.S_alloc | apply Kd.S_drewN | apply Kd.S_drew)); exact HO_7.out) hb); have n1_ := Aside0.mk (Kd.S_below (by (with_reducible repeat (first | apply Kd.S_alloc | apply Kd.S_drewN | apply Kd.S_drew)); exact HO_9.out) hb); have n2_ := Aside0.mk (Kd.S_below (by (with_reducible repeat (first | apply Kd.S_alloc | apply Kd.S_drewN | apply Kd.S_drew)); exact HO_11.out) hb); have n3_ := Aside0.mk (Kd.S_below (by (with_reducible repeat (first | apply Kd.S_alloc | apply Kd.S_drewN | apply Kd.S_drew)); exact HO_13.out) hb); have n4_ := Aside0.mk (Kd.R_below (by (with_reducible repeat (first | apply Kd.R_alloc | apply Kd.R_drewN | apply Kd.R_drew)); exact HO274.out) hb); have n5_ := Aside0.mk (below_step (by repeat (first | (with_reducible first | exact HB.out | apply below_alloc | apply pw_below_drewN | apply below_drew1) | exact HB.out)) hb); clear HO_7; clear HO_9; clear HO_11; clear HO_13; clear HO274; clear HB; have HO_7 := n0_; have HO_9 := n1_; have HO_11 := n2_; have HO_13 := n3_; have HO274 := n4_; have HB := n5_; clear n0_ n1_ n2_ n3_ n4_ n5_; (try clear hb); (try clear hb2); (try clear hk); (try clear hi); obtain ⟨Ao49, co49, eo49⟩ := Kd.R_slice HO274.out; subst eo49) | (go_at_call 19; (with_reducible refine (salchowref49_SameLines.calls kj22 _ _ t271 _ _ l1 true _ ?side1 ?side2 ?side3 ?side4 A36.out).mono ?_); (case side1 => repeat (first | exact (Kd.R_reads' HO274.out).2.2 | (with_reducible refine Kd.C_alloc ?_ _) | (with_reducible refine Kd.C_drewN ?_ _) | (with_reducible refine Kd.C_drew ?_))); (case side2 => exact (Kd.R_reads' HO274.out).2.1); (case side3 => repeat (first | exact (Kd.C_below HR1.out HB.out) | (with_reducible refine Kd.C_alloc ?_ _) | (with_reducible refine Kd.C_drewN ?_ _) | (with_reducible refine Kd.C_drew ?_))); (case side4 => exact HC1.out); rintro e w' ⟨rfl, ⟨nd, rfl⟩⟩) | (go_at_call 19; (with_reducible refine (salchowref49_SameLines.calls kj22 _ _ l0 _ _ l1 t277 _ ?side1 ?side2 ?side3 ?side4 A38.out).mono ?_); (case side1 => repeat (first | exact (Kd.C_below HR0.out (by repeat (first | (with_reducible first | exact HB.out | apply below_alloc | apply pw_below_drewN | apply below_drew1) | exact HB.out))) | (with_reducible refine Kd.C_alloc ?_ _) | (with_reducible refine Kd.C_drewN ?_ _) | (with_reducible refine Kd.C_drew ?_))); (case side2 => exact HC0.out); (case side3 => repeat (first | exact (Kd.C_below HR1.out (by repeat (first | (with_reducible first | exact HB.out | apply below_alloc | apply pw_below_drewN | apply below_drew1) | exact HB.out))) | (with_reducible refine Kd.C_alloc ?_ _) | (with_reducible refine Kd.C_drewN ?_ _) | (with_reducible refine Kd.C_drew ?_))); (case side4 => exact HC1.out); rintro e w' ⟨rfl, ⟨nd, rfl⟩⟩) | (go_at_call 24; (with_reducible refine (salchowref49_Cost.calls kj22 _ _ t255 t278 _ ?side1 ?side2 A40.out).mono ?_); (case side1 => repeat (first | exact (Kd.S_reads' HO_7.out).2.2 | (with_reducible refine Kd.C_alloc ?_ _) | (with_reducible refine Kd.C_drewN ?_ _) | (with_reducible refine Kd.C_drew ?_))); (case side2 => exact (Kd.S_reads' HO_7.out).2.1); rintro e w' ⟨rfl, ⟨nd, rfl⟩⟩; obtain ⟨Ao50, co50, eo50⟩ := Kd.S_slice HO_9.out; subst eo50) | (go_at_call 24; (with_reducible refine (salchowref49_Cost.calls kj22 _ _ t259 t279 _ ?side1 ?side2 A41.out).mono ?_); (case side1 => repeat (first | exact (Kd.S_reads' HO_9.out).2.2 | (with_reducible refine Kd.C_alloc ?_ _) | (with_reducible refine Kd.C_drewN ?_ _) | (with_reducible refine Kd.C_drew ?_))); (case side2 => exact (Kd.S_reads' HO_9.out).2.1); rintro e w' ⟨rfl, ⟨nd, rfl⟩⟩; obtain ⟨Ao51, co51, eo51⟩ := Kd.S_slice HO_13.out; subst eo51) | (go_at_call 24; (with_reducible refine (salchowref49_Cost.calls kj22 _ _ t267 t280 _ ?side1 ?side2 A43.out).mono ?_); (case side1 => repeat (first | exact (Kd.S_reads' HO_13.out).2.2 | (with_reducible refine Kd.C_alloc ?_ _) | (with_reducible refine Kd.C_drewN ?_ _) | (with_reducible refine Kd.C_drew ?_))); (case side2 => exact (Kd.S_reads' HO_13.out).2.1); rintro e w' ⟨rfl, ⟨nd, rfl⟩⟩) | (go_at_call 24; (with_reducible refine (salchowref49_Cost.calls kj22 _ _ t255 t281 _ ?side1 ?side2 A44.out).mono ?_); (case side1 => repeat (first | exact (Kd.S_reads' HO_7.out).2.2 | (with_reducible refine Kd.C_alloc ?_ _) | (with_reducible refine Kd.C_drewN ?_ _) | (with_reducible refine Kd.C_drew ?_))); (case side2 => exact (Kd.S_reads' HO_7.out).2.1); rintro e w' ⟨rfl, ⟨nd, rfl⟩⟩; obtain ⟨Ao52, co52, eo52⟩ := Kd.S_slice HO_11.out; subst eo52) | (go_at_call 24; (with_reducible refine (salchowref49_Cost.calls kj22 _ _ t263 t282 _ ?side1 ?side2 A45.out).mono ?_); (case side1 => repeat (first | exact (Kd.S_reads' HO_11.out).2.2 | (with_reducible refine Kd.C_alloc ?_ _) | (with_reducible refine Kd.C_drewN ?_ _) | (with_reducible refine Kd.C_drew ?_))); (case side2 => exact (Kd.S_reads' HO_11.out).2.1); rintro e w' ⟨rfl, ⟨nd, rfl⟩⟩))
            go_ret
            exact ⟨by first | rfl | (simp [errW_none, errW_some] <;> rfl) | (simp [*, errW_none, errW_some] <;> rfl), by repeat (first | (with_reducible first | exact HB.out | apply below_alloc | apply pw_below_drewN | apply below_drew1) | exact HB.out)⟩
           ·rw [if_neg c42] at H
            have c42b0 : (t278 == t279) = false := beq_eq_false_iff_ne.mpr c42
            have c42b1 : (t278 != t279) = true := bne_iff_ne.mpr c42
            obtain rfl := Option.some.inj H
            obtain ⟨Ao53, co53, eo53⟩ := Kd.S_slice HO_7.out
            subst eo53
            go_wp2_with (first | ((with_reducible refine gate_callee (f := 17) rfl ?_); refine goesL_ (some 87) rfl rfl Tryd.func17 (by kernel_rfl) rfl #[.slice A0 l0.length c0, .slice Ao53 t255.length co53] rfl (by (try simp only [List.map_toArray, List.map_cons, List.map_nil]); first | done | rfl | (simp only [List.length_drop, List.length_take]; rfl)) ?_; (with_reducible refine (frame_Apply.calls kj22 _ _ l0 _ _ t255 t271 t272 _ ?side1 ?side2 ?side3 ?side4 A32.out).mono ?_); (case side1 => repeat (first | exact (Kd.C_below HR0.out HB.out) | (with_reducible refine Kd.C_alloc ?_ _) | (with_reducible refine Kd.C_drewN ?_ _) | (with_reducible refine Kd.C_drew ?_))); (case side2 => exact HC0.out); (case side3 => repeat (first | exact (Kd.S_reads' HO_7.out).2.2 | (with_reducible refine Kd.C_alloc ?_ _) | (with_reducible refine Kd.C_drewN ?_ _) | (with_reducible refine Kd.C_drew ?_))); (case side4 => exact (Kd.S_reads' HO_7.out).2.1); rintro e w54 ⟨v273, rfl, ho0, hb⟩; refine ⟨_, rfl, ?_⟩; have n0_ := Aside0.mk (Kd.S_elder' (by (with_reducible repeat (first | apply Kd.S_alloc | apply Kd.S_drewN | apply Kd.S_drew)); exact HO_7.out) (Kd.R_base ho0) hb); have n1_ := Aside0.mk (Kd.S_elder' (by (with_reducible repeat (first | apply Kd.S_alloc | apply Kd.S_drewN | apply Kd.S_drew)); exact HO_9.out) (Kd.R_base ho0) hb); have n2_ := Aside0.mk (Kd.S_elder' (by (with_reducible repeat (first | apply Kd.S_alloc | apply Kd.S_drewN | apply Kd.S_drew)); exact HO_11.out) (Kd.R_base ho0) hb); have n3_ := Aside0.mk (Kd.S_elder' (by (with_reducible repeat (first | apply Kd.S_alloc | apply Kd.S_drewN | apply Kd.S_drew)); exact HO_13.out) (Kd.R_base ho0) hb); have n4_ := Aside0.mk (Kd.R_lower ho0 (below_size (by repeat (first | (with_reducible first | exact HB.out | apply below_alloc | apply pw_below_drewN | apply below_drew1) | exact HB.out)))); have n5_ := Aside0.mk (below_step (by repeat (first | (with_reducible first | exact HB.out | apply below_alloc | apply pw_below_drewN | apply below_drew1) | exact HB.out)) hb); clear HO_7; clear HO_9; clear HO_11; clear HO_13; clear HB; have HO_7 := n0_; have HO_9 := n1_; have HO_11 := n2_; have HO_13 := n3_; have HO274 := n4_; have HB := n5_; clear n0_ n1_ n2_ n3_ n4_ n5_; (try clear hb); (try clear hb2); (try clear hk); (try clear hi); (try clear ho0)) | ((with_reducible refine gate_callee (f := 10) rfl ?_); refine goesL_ (some 90) rfl rfl Tryd.func10 (by kernel_rfl) rfl #[] rfl (by (try simp only [List.map_toArray, List.map_cons, List.map_nil]); first | done | rfl | (simp only [List.length_drop, List.length_take]; rfl)) ?_; (with_reducible refine (Go.Proofs.YtfpopmojlmpopaaDoor.H.salchowlaw49_awake.calls  true _ ?side1 A33.out).mono ?_); (case side1 => exact Go.Proofs.YtfpopmojlmpopaaDoor.H.Laid.below HLd.out (by repeat (first | (with_reducible first | exact HB.out | apply below_alloc | apply pw_below_drewN | apply below_drew1) | exact HB.out))); rintro e w55 ⟨rfl, hb⟩; refine ⟨_, rfl, ?_⟩; have n0_ := Aside0.mk (Kd.S_below (by (with_reducible repeat (first | apply Kd.S_alloc | apply Kd.S_drewN | apply Kd.S_drew)); exact HO_7.out) hb); have n1_ := Aside0.mk (Kd.S_below (by (with_reducible repeat (first | apply Kd.S_alloc | apply Kd.S_drewN | apply Kd.S_drew)); exact HO_9.out) hb); have n2_ := Aside0.mk (Kd.S_below (by (with_reducible repeat (first | apply Kd.S_alloc | apply Kd.S_drewN | apply Kd.S_drew)); exact HO_11.out) hb); have n3_ := Aside0.mk (Kd.S_below (by (with_reducible repeat (first | apply Kd.S_alloc | apply Kd.S_drewN | apply Kd.S_drew)); exact HO_13.out) hb); have n4_ := Aside0.mk (Kd.R_below (by (with_reducible repeat (first | apply Kd.R_alloc | apply Kd.R_drewN | apply Kd.R_drew)); exact HO274.out) hb); have n5_ := Aside0.mk (below_step (by repeat (first | (with_reducible first | exact HB.out | apply below_alloc | apply pw_below_drewN | apply below_drew1) | exact HB.out)) hb); clear HO_7; clear HO_9; clear HO_11; clear HO_13; clear HO274; clear HB; have HO_7 := n0_; have HO_9 := n1_; have HO_11 := n2_; have HO_13 := n3_; have HO274 := n4_; have HB := n5_; clear n0_ n1_ n2_ n3_ n4_ n5_; (try clear hb); (try clear hb2); (try clear hk); (try clear hi); obtain ⟨Ao56, co56, eo56⟩ := Kd.R_slice HO274.out; subst eo56) | (go_at_call 19; (with_reducible refine (salchowref49_SameLines.calls kj22 _ _ t271 _ _ l1 true _ ?side1 ?side2 ?side3 ?side4 A36.out).mono ?_); (case side1 => repeat (first | exact (Kd.R_reads' HO274.out).2.2 | (with_reducible refine Kd.C_alloc ?_ _) | (with_reducible refine Kd.C_drewN ?_ _) | (with_reducible refine Kd.C_drew ?_))); (case side2 => exact (Kd.R_reads' HO274.out).2.1); (case side3 => repeat (first | exact (Kd.C_below HR1.out HB.out) | (with_reducible refine Kd.C_alloc ?_ _) | (with_reducible refine Kd.C_drewN ?_ _) | (with_reducible refine Kd.C_drew ?_))); (case side4 => exact HC1.out); rintro e w' ⟨rfl, ⟨nd, rfl⟩⟩) | (go_at_call 19; (with_reducible refine (salchowref49_SameLines.calls kj22 _ _ l0 _ _ l1 t277 _ ?side1 ?side2 ?side3 ?side4 A38.out).mono ?_); (case side1 => repeat (first | exact (Kd.C_below HR0.out (by repeat (first | (with_reducible first | exact HB.out | apply below_alloc | apply pw_below_drewN | apply below_drew1) | exact HB.out))) | (with_reducible refine Kd.C_alloc ?_ _) | (with_reducible refine Kd.C_drewN ?_ _) | (with_reducible refine Kd.C_drew ?_))); (case side2 => exact HC0.out); (case side3 => repeat (first | exact (Kd.C_below HR1.out (by repeat (first | (with_reducible first | exact HB.out | apply below_alloc | apply pw_below_drewN | apply below_drew1) | exact HB.out))) | (with_reducible refine Kd.C_alloc ?_ _) | (with_reducible refine Kd.C_drewN ?_ _) | (with_reducible refine Kd.C_drew ?_))); (case side4 => exact HC1.out); rintro e w' ⟨rfl, ⟨nd, rfl⟩⟩) | (go_at_call 24; (with_reducible refine (salchowref49_Cost.calls kj22 _ _ t255 t278 _ ?side1 ?side2 A40.out).mono ?_); (case side1 => repeat (first | exact (Kd.S_reads' HO_7.out).2.2 | (with_reducible refine Kd.C_alloc ?_ _) | (with_reducible refine Kd.C_drewN ?_ _) | (with_reducible refine Kd.C_drew ?_))); (case side2 => exact (Kd.S_reads' HO_7.out).2.1); rintro e w' ⟨rfl, ⟨nd, rfl⟩⟩; obtain ⟨Ao57, co57, eo57⟩ := Kd.S_slice HO_9.out; subst eo57) | (go_at_call 24; (with_reducible refine (salchowref49_Cost.calls kj22 _ _ t259 t279 _ ?side1 ?side2 A41.out).mono ?_); (case side1 => repeat (first | exact (Kd.S_reads' HO_9.out).2.2 | (with_reducible refine Kd.C_alloc ?_ _) | (with_reducible refine Kd.C_drewN ?_ _) | (with_reducible refine Kd.C_drew ?_))); (case side2 => exact (Kd.S_reads' HO_9.out).2.1); rintro e w' ⟨rfl, ⟨nd, rfl⟩⟩))
            go_ret
            exact ⟨by first | rfl | (simp [errW_none, errW_some] <;> rfl) | (simp [*, errW_none, errW_some] <;> rfl), by repeat (first | (with_reducible first | exact HB.out | apply below_alloc | apply pw_below_drewN | apply below_drew1) | exact HB.out)⟩
          ·rw [if_neg c39] at H
           have c39b0 : (((t255.length : Int) == 0) == t277) = false := by simpa using c39
           (try (have c39b1 : decide (((t255.length : Int) == 0) = t277) = false := by simpa using c39))
           (try (have c39b2 : (((t255.length : Int) == 0) == t277) = false := by simpa using c39))
           (try (have c39b3 : ¬ (((t255.length : Int) == 0) = t277) := by simpa using c39))
           clear c39
           obtain rfl := Option.some.inj H
           obtain ⟨Ao58, co58, eo58⟩ := Kd.S_slice HO_7.out
           subst eo58
           go_wp2_with (first | ((with_reducible refine gate_callee (f := 17) rfl ?_); refine goesL_ (some 87) rfl rfl Tryd.func17 (by kernel_rfl) rfl #[.slice A0 l0.length c0, .slice Ao58 t255.length co58] rfl (by (try simp only [List.map_toArray, List.map_cons, List.map_nil]); first | done | rfl | (simp only [List.length_drop, List.length_take]; rfl)) ?_; (with_reducible refine (frame_Apply.calls kj22 _ _ l0 _ _ t255 t271 t272 _ ?side1 ?side2 ?side3 ?side4 A32.out).mono ?_); (case side1 => repeat (first | exact (Kd.C_below HR0.out HB.out) | (with_reducible refine Kd.C_alloc ?_ _) | (with_reducible refine Kd.C_drewN ?_ _) | (with_reducible refine Kd.C_drew ?_))); (case side2 => exact HC0.out); (case side3 => repeat (first | exact (Kd.S_reads' HO_7.out).2.2 | (with_reducible refine Kd.C_alloc ?_ _) | (with_reducible refine Kd.C_drewN ?_ _) | (with_reducible refine Kd.C_drew ?_))); (case side4 => exact (Kd.S_reads' HO_7.out).2.1); rintro e w59 ⟨v273, rfl, ho0, hb⟩; refine ⟨_, rfl, ?_⟩; have n0_ := Aside0.mk (Kd.S_elder' (by (with_reducible repeat (first | apply Kd.S_alloc | apply Kd.S_drewN | apply Kd.S_drew)); exact HO_7.out) (Kd.R_base ho0) hb); have n1_ := Aside0.mk (Kd.S_elder' (by (with_reducible repeat (first | apply Kd.S_alloc | apply Kd.S_drewN | apply Kd.S_drew)); exact HO_9.out) (Kd.R_base ho0) hb); have n2_ := Aside0.mk (Kd.S_elder' (by (with_reducible repeat (first | apply Kd.S_alloc | apply Kd.S_drewN | apply Kd.S_drew)); exact HO_11.out) (Kd.R_base ho0) hb); have n3_ := Aside0.mk (Kd.S_elder' (by (with_reducible repeat (first | apply Kd.S_alloc | apply Kd.S_drewN | apply Kd.S_drew)); exact HO_13.out) (Kd.R_base ho0) hb); have n4_ := Aside0.mk (Kd.R_lower ho0 (below_size (by repeat (first | (with_reducible first | exact HB.out | apply below_alloc | apply pw_below_drewN | apply below_drew1) | exact HB.out)))); have n5_ := Aside0.mk (below_step (by repeat (first | (with_reducible first | exact HB.out | apply below_alloc | apply pw_below_drewN | apply below_drew1) | exact HB.out)) hb); clear HO_7; clear HO_9; clear HO_11; clear HO_13; clear HB; have HO_7 := n0_; have HO_9 := n1_; have HO_11 := n2_; have HO_13 := n3_; have HO274 := n4_; have HB := n5_; clear n0_ n1_ n2_ n3_ n4_ n5_; (try clear hb); (try clear hb2); (try clear hk); (try clear hi); (try clear ho0)) | ((with_reducible refine gate_callee (f := 10) rfl ?_); refine goesL_ (some 90) rfl rfl Tryd.func10 (by kernel_rfl) rfl #[] rfl (by (try simp only [List.map_toArray, List.map_cons, List.map_nil]); first | done | rfl | (simp only [List.length_drop, List.length_take]; rfl)) ?_; (with_reducible refine (Go.Proofs.YtfpopmojlmpopaaDoor.H.salchowlaw49_awake.calls  true _ ?side1 A33.out).mono ?_); (case side1 => exact Go.Proofs.YtfpopmojlmpopaaDoor.H.Laid.below HLd.out (by repeat (first | (with_reducible first | exact HB.out | apply below_alloc | apply pw_below_drewN | apply below_drew1) | exact HB.out))); rintro e w60 ⟨rfl, hb⟩; refine ⟨_, rfl, ?_⟩; have n0_ := Aside0.mk (Kd.S_below (by (with_reducible repeat (first | apply Kd.S_alloc | apply Kd.S_drewN | apply Kd.S_drew)); exact HO_7.out) hb); have n1_ := Aside0.mk (Kd.S_below (by (with_reducible repeat (first | apply Kd.S_alloc | apply Kd.S_drewN | apply Kd.S_drew)); exact HO_9.out) hb); have n2_ := Aside0.mk (Kd.S_below (by (with_reducible repeat (first | apply Kd.S_alloc | apply Kd.S_drewN | apply Kd.S_drew)); exact HO_11.out) hb); have n3_ := Aside0.mk (Kd.S_below (by (with_reducible repeat (first | apply Kd.S_alloc | apply Kd.S_drewN | apply Kd.S_drew)); exact HO_13.out) hb); have n4_ := Aside0.mk (Kd.R_below (by (with_reducible repeat (first | apply Kd.R_alloc | apply Kd.R_drewN | apply Kd.R_drew)); exact HO274.out) hb); have n5_ := Aside0.mk (below_step (by repeat (first | (with_reducible first | exact HB.out | apply below_alloc | apply pw_below_drewN | apply below_drew1) | exact HB.out)) hb); clear HO_7; clear HO_9; clear HO_11; clear HO_13; clear HO274; clear HB; have HO_7 := n0_; have HO_9 := n1_; have HO_11 := n2_; have HO_13 := n3_; have HO274 := n4_; have HB := n5_; clear n0_ n1_ n2_ n3_ n4_ n5_; (try clear hb); (try clear hb2); (try clear hk); (try clear hi); obtain ⟨Ao61, co61, eo61⟩ := Kd.R_slice HO274.out; subst eo61) | (go_at_call 19; (with_reducible refine (salchowref49_SameLines.calls kj22 _ _ t271 _ _ l1 true _ ?side1 ?side2 ?side3 ?side4 A36.out).mono ?_); (case side1 => repeat (first | exact (Kd.R_reads' HO274.out).2.2 | (with_reducible refine Kd.C_alloc ?_ _) | (with_reducible refine Kd.C_drewN ?_ _) | (with_reducible refine Kd.C_drew ?_))); (case side2 => exact (Kd.R_reads' HO274.out).2.1); (case side3 => repeat (first | exact (Kd.C_below HR1.out HB.out) | (with_reducible refine Kd.C_alloc ?_ _) | (with_reducible refine Kd.C_drewN ?_ _) | (with_reducible refine Kd.C_drew ?_))); (case side4 => exact HC1.out); rintro e w' ⟨rfl, ⟨nd, rfl⟩⟩) | (go_at_call 19; (with_reducible refine (salchowref49_SameLines.calls kj22 _ _ l0 _ _ l1 t277 _ ?side1 ?side2 ?side3 ?side4 A38.out).mono ?_); (case side1 => repeat (first | exact (Kd.C_below HR0.out (by repeat (first | (with_reducible first | exact HB.out | apply below_alloc | apply pw_below_drewN | apply below_drew1) | exact HB.out))) | (with_reducible refine Kd.C_alloc ?_ _) | (with_reducible refine Kd.C_drewN ?_ _) | (with_reducible refine Kd.C_drew ?_))); (case side2 => exact HC0.out); (case side3 => repeat (first | exact (Kd.C_below HR1.out (by repeat (first | (with_reducible first | exact HB.out | apply below_alloc | apply pw_below_drewN | apply below_drew1) | exact HB.out))) | (with_reducible refine Kd.C_alloc ?_ _) | (with_reducible refine Kd.C_drewN ?_ _) | (with_reducible refine Kd.C_drew ?_))); (case side4 => exact HC1.out); rintro e w' ⟨rfl, ⟨nd, rfl⟩⟩))
           go_ret
           exact ⟨by first | rfl | (simp [errW_none, errW_some] <;> rfl) | (simp [*, errW_none, errW_some] <;> rfl), by repeat (first | (with_reducible first | exact HB.out | apply below_alloc | apply pw_below_drewN | apply below_drew1) | exact HB.out)⟩
         ·replace c37 := Bool.eq_false_iff.mpr c37
          subst c37
          have H1 : (some false) = some r := by rw [if_neg (show ¬ (false = true) by decide)] at H; exact H
          clear H
          have H := H1
          clear H1
          obtain rfl := Option.some.inj H
          obtain ⟨Ao62, co62, eo62⟩ := Kd.S_slice HO_7.out
          subst eo62
          go_wp2_with (first | ((with_reducible refine gate_callee (f := 17) rfl ?_); refine goesL_ (some 87) rfl rfl Tryd.func17 (by kernel_rfl) rfl #[.slice A0 l0.length c0, .slice Ao62 t255.length co62] rfl (by (try simp only [List.map_toArray, List.map_cons, List.map_nil]); first | done | rfl | (simp only [List.length_drop, List.length_take]; rfl)) ?_; (with_reducible refine (frame_Apply.calls kj22 _ _ l0 _ _ t255 t271 t272 _ ?side1 ?side2 ?side3 ?side4 A32.out).mono ?_); (case side1 => repeat (first | exact (Kd.C_below HR0.out HB.out) | (with_reducible refine Kd.C_alloc ?_ _) | (with_reducible refine Kd.C_drewN ?_ _) | (with_reducible refine Kd.C_drew ?_))); (case side2 => exact HC0.out); (case side3 => repeat (first | exact (Kd.S_reads' HO_7.out).2.2 | (with_reducible refine Kd.C_alloc ?_ _) | (with_reducible refine Kd.C_drewN ?_ _) | (with_reducible refine Kd.C_drew ?_))); (case side4 => exact (Kd.S_reads' HO_7.out).2.1); rintro e w63 ⟨v273, rfl, ho0, hb⟩; refine ⟨_, rfl, ?_⟩; have n0_ := Aside0.mk (Kd.S_elder' (by (with_reducible repeat (first | apply Kd.S_alloc | apply Kd.S_drewN | apply Kd.S_drew)); exact HO_7.out) (Kd.R_base ho0) hb); have n1_ := Aside0.mk (Kd.S_elder' (by (with_reducible repeat (first | apply Kd.S_alloc | apply Kd.S_drewN | apply Kd.S_drew)); exact HO_9.out) (Kd.R_base ho0) hb); have n2_ := Aside0.mk (Kd.S_elder' (by (with_reducible repeat (first | apply Kd.S_alloc | apply Kd.S_drewN | apply Kd.S_drew)); exact HO_11.out) (Kd.R_base ho0) hb); have n3_ := Aside0.mk (Kd.S_elder' (by (with_reducible repeat (first | apply Kd.S_alloc | apply Kd.S_drewN | apply Kd.S_drew)); exact HO_13.out) (Kd.R_base ho0) hb); have n4_ := Aside0.mk (Kd.R_lower ho0 (below_size (by repeat (first | (with_reducible first | exact HB.out | apply below_alloc | apply pw_below_drewN | apply below_drew1) | exact HB.out)))); have n5_ := Aside0.mk (below_step (by repeat (first | (with_reducible first | exact HB.out | apply below_alloc | apply pw_below_drewN | apply below_drew1) | exact HB.out)) hb); clear HO_7; clear HO_9; clear HO_11; clear HO_13; clear HB; have HO_7 := n0_; have HO_9 := n1_; have HO_11 := n2_; have HO_13 := n3_; have HO274 := n4_; have HB := n5_; clear n0_ n1_ n2_ n3_ n4_ n5_; (try clear hb); (try clear hb2); (try clear hk); (try clear hi); (try clear ho0)) | ((with_reducible refine gate_callee (f := 10) rfl ?_); refine goesL_ (some 90) rfl rfl Tryd.func10 (by kernel_rfl) rfl #[] rfl (by (try simp only [List.map_toArray, List.map_cons, List.map_nil]); first | done | rfl | (simp only [List.length_drop, List.length_take]; rfl)) ?_; (with_reducible refine (Go.Proofs.YtfpopmojlmpopaaDoor.H.salchowlaw49_awake.calls  true _ ?side1 A33.out).mono ?_); (case side1 => exact Go.Proofs.YtfpopmojlmpopaaDoor.H.Laid.below HLd.out (by repeat (first | (with_reducible first | exact HB.out | apply below_alloc | apply pw_below_drewN | apply below_drew1) | exact HB.out))); rintro e w64 ⟨rfl, hb⟩; refine ⟨_, rfl, ?_⟩; have n0_ := Aside0.mk (Kd.S_below (by (with_reducible repeat (first | apply Kd.S_alloc | apply Kd.S_drewN | apply Kd.S_drew)); exact HO_7.out) hb); have n1_ := Aside0.mk (Kd.S_below (by (with_reducible repeat (first | apply Kd.S_alloc | apply Kd.S_drewN | apply Kd.S_drew)); exact HO_9.out) hb); have n2_ := Aside0.mk (Kd.S_below (by (with_reducible repeat (first | apply Kd.S_alloc | apply Kd.S_drewN | apply Kd.S_drew)); exact HO_11.out) hb); have n3_ := Aside0.mk (Kd.S_below (by (with_reducible repeat (first | apply Kd.S_alloc | apply Kd.S_drewN | apply Kd.S_drew)); exact HO_13.out) hb); have n4_ := Aside0.mk (Kd.R_below (by (with_reducible repeat (first | apply Kd.R_alloc | apply Kd.R_drewN | apply Kd.R_drew)); exact HO274.out) hb); have n5_ := Aside0.mk (below_step (by repeat (first | (with_reducible first | exact HB.out | apply below_alloc | apply pw_below_drewN | apply below_drew1) | exact HB.out)) hb); clear HO_7; clear HO_9; clear HO_11; clear HO_13; clear HO274; clear HB; have HO_7 := n0_; have HO_9 := n1_; have HO_11 := n2_; have HO_13 := n3_; have HO274 := n4_; have HB := n5_; clear n0_ n1_ n2_ n3_ n4_ n5_; (try clear hb); (try clear hb2); (try clear hk); (try clear hi); obtain ⟨Ao65, co65, eo65⟩ := Kd.R_slice HO274.out; subst eo65) | (go_at_call 19; (with_reducible refine (salchowref49_SameLines.calls kj22 _ _ t271 _ _ l1 false _ ?side1 ?side2 ?side3 ?side4 A36.out).mono ?_); (case side1 => repeat (first | exact (Kd.R_reads' HO274.out).2.2 | (with_reducible refine Kd.C_alloc ?_ _) | (with_reducible refine Kd.C_drewN ?_ _) | (with_reducible refine Kd.C_drew ?_))); (case side2 => exact (Kd.R_reads' HO274.out).2.1); (case side3 => repeat (first | exact (Kd.C_below HR1.out HB.out) | (with_reducible refine Kd.C_alloc ?_ _) | (with_reducible refine Kd.C_drewN ?_ _) | (with_reducible refine Kd.C_drew ?_))); (case side4 => exact HC1.out); rintro e w' ⟨rfl, ⟨nd, rfl⟩⟩))
          go_ret
          exact ⟨by first | rfl | (simp [errW_none, errW_some] <;> rfl) | (simp [*, errW_none, errW_some] <;> rfl), by repeat (first | (with_reducible first | exact HB.out | apply below_alloc | apply pw_below_drewN | apply below_drew1) | exact HB.out)⟩
        ·rw [if_neg c35] at H
         have c35b0 : (t272 == 0) = false := beq_eq_false_iff_ne.mpr c35
         have c35b1 : (t272 != 0) = true := bne_iff_ne.mpr c35
         obtain rfl := Option.some.inj H
         obtain ⟨Ao66, co66, eo66⟩ := Kd.S_slice HO_7.out
         subst eo66
         go_wp2_with (first | ((with_reducible refine gate_callee (f := 17) rfl ?_); refine goesL_ (some 87) rfl rfl Tryd.func17 (by kernel_rfl) rfl #[.slice A0 l0.length c0, .slice Ao66 t255.length co66] rfl (by (try simp only [List.map_toArray, List.map_cons, List.map_nil]); first | done | rfl | (simp only [List.length_drop, List.length_take]; rfl)) ?_; (with_reducible refine (frame_Apply.calls kj22 _ _ l0 _ _ t255 t271 t272 _ ?side1 ?side2 ?side3 ?side4 A32.out).mono ?_); (case side1 => repeat (first | exact (Kd.C_below HR0.out HB.out) | (with_reducible refine Kd.C_alloc ?_ _) | (with_reducible refine Kd.C_drewN ?_ _) | (with_reducible refine Kd.C_drew ?_))); (case side2 => exact HC0.out); (case side3 => repeat (first | exact (Kd.S_reads' HO_7.out).2.2 | (with_reducible refine Kd.C_alloc ?_ _) | (with_reducible refine Kd.C_drewN ?_ _) | (with_reducible refine Kd.C_drew ?_))); (case side4 => exact (Kd.S_reads' HO_7.out).2.1); rintro e w67 ⟨v273, rfl, ho0, hb⟩; refine ⟨_, rfl, ?_⟩; have n0_ := Aside0.mk (Kd.S_elder' (by (with_reducible repeat (first | apply Kd.S_alloc | apply Kd.S_drewN | apply Kd.S_drew)); exact HO_7.out) (Kd.R_base ho0) hb); have n1_ := Aside0.mk (Kd.S_elder' (by (with_reducible repeat (first | apply Kd.S_alloc | apply Kd.S_drewN | apply Kd.S_drew)); exact HO_9.out) (Kd.R_base ho0) hb); have n2_ := Aside0.mk (Kd.S_elder' (by (with_reducible repeat (first | apply Kd.S_alloc | apply Kd.S_drewN | apply Kd.S_drew)); exact HO_11.out) (Kd.R_base ho0) hb); have n3_ := Aside0.mk (Kd.S_elder' (by (with_reducible repeat (first | apply Kd.S_alloc | apply Kd.S_drewN | apply Kd.S_drew)); exact HO_13.out) (Kd.R_base ho0) hb); have n4_ := Aside0.mk (Kd.R_lower ho0 (below_size (by repeat (first | (with_reducible first | exact HB.out | apply below_alloc | apply pw_below_drewN | apply below_drew1) | exact HB.out)))); have n5_ := Aside0.mk (below_step (by repeat (first | (with_reducible first | exact HB.out | apply below_alloc | apply pw_below_drewN | apply below_drew1) | exact HB.out)) hb); clear HO_7; clear HO_9; clear HO_11; clear HO_13; clear HB; have HO_7 := n0_; have HO_9 := n1_; have HO_11 := n2_; have HO_13 := n3_; have HO274 := n4_; have HB := n5_; clear n0_ n1_ n2_ n3_ n4_ n5_; (try clear hb); (try clear hb2); (try clear hk); (try clear hi); (try clear ho0)) | ((with_reducible refine gate_callee (f := 10) rfl ?_); refine goesL_ (some 90) rfl rfl Tryd.func10 (by kernel_rfl) rfl #[] rfl (by (try simp only [List.map_toArray, List.map_cons, List.map_nil]); first | done | rfl | (simp only [List.length_drop, List.length_take]; rfl)) ?_; (with_reducible refine (Go.Proofs.YtfpopmojlmpopaaDoor.H.salchowlaw49_awake.calls  true _ ?side1 A33.out).mono ?_); (case side1 => exact Go.Proofs.YtfpopmojlmpopaaDoor.H.Laid.below HLd.out (by repeat (first | (with_reducible first | exact HB.out | apply below_alloc | apply pw_below_drewN | apply below_drew1) | exact HB.out))); rintro e w68 ⟨rfl, hb⟩; refine ⟨_, rfl, ?_⟩; have n0_ := Aside0.mk (Kd.S_below (by (with_reducible repeat (first | apply Kd.S_alloc | apply Kd.S_drewN | apply Kd.S_drew)); exact HO_7.out) hb); have n1_ := Aside0.mk (Kd.S_below (by (with_reducible repeat (first | apply Kd.S_alloc | apply Kd.S_drewN | apply Kd.S_drew)); exact HO_9.out) hb); have n2_ := Aside0.mk (Kd.S_below (by (with_reducible repeat (first | apply Kd.S_alloc | apply Kd.S_drewN | apply Kd.S_drew)); exact HO_11.out) hb); have n3_ := Aside0.mk (Kd.S_below (by (with_reducible repeat (first | apply Kd.S_alloc | apply Kd.S_drewN | apply Kd.S_drew)); exact HO_13.out) hb); have n4_ := Aside0.mk (Kd.R_below (by (with_reducible repeat (first | apply Kd.R_alloc | apply Kd.R_drewN | apply Kd.R_drew)); exact HO274.out) hb); have n5_ := Aside0.mk (below_step (by repeat (first | (with_reducible first | exact HB.out | apply below_alloc | apply pw_below_drewN | apply below_drew1) | exact HB.out)) hb); clear HO_7; clear HO_9; clear HO_11; clear HO_13; clear HO274; clear HB; have HO_7 := n0_; have HO_9 := n1_; have HO_11 := n2_; have HO_13 := n3_; have HO274 := n4_; have HB := n5_; clear n0_ n1_ n2_ n3_ n4_ n5_; (try clear hb); (try clear hb2); (try clear hk); (try clear hi)))
         go_ret
         exact ⟨by first | rfl | (simp [errW_none, errW_some] <;> rfl) | (simp [*, errW_none, errW_some] <;> rfl), by repeat (first | (with_reducible first | exact HB.out | apply below_alloc | apply pw_below_drewN | apply below_drew1) | exact HB.out)⟩
       ·replace c34 := Bool.eq_false_iff.mpr c34
        subst c34
        have H1 : (some false) = some r := by rw [if_neg (show ¬ (false = true) by decide)] at H; exact H
        clear H
        have H := H1
        clear H1
        obtain rfl := Option.some.inj H
        obtain ⟨Ao69, co69, eo69⟩ := Kd.S_slice HO_7.out
        subst eo69
        go_wp2_with (first | ((with_reducible refine gate_callee (f := 17) rfl ?_); refine goesL_ (some 87) rfl rfl Tryd.func17 (by kernel_rfl) rfl #[.slice A0 l0.length c0, .slice Ao69 t255.length co69] rfl (by (try simp only [List.map_toArray, List.map_cons, List.map_nil]); first | done | rfl | (simp only [List.length_drop, List.length_take]; rfl)) ?_; (with_reducible refine (frame_Apply.calls kj22 _ _ l0 _ _ t255 t271 t272 _ ?side1 ?side2 ?side3 ?side4 A32.out).mono ?_); (case side1 => repeat (first | exact (Kd.C_below HR0.out HB.out) | (with_reducible refine Kd.C_alloc ?_ _) | (with_reducible refine Kd.C_drewN ?_ _) | (with_reducible refine Kd.C_drew ?_))); (case side2 => exact HC0.out); (case side3 => repeat (first | exact (Kd.S_reads' HO_7.out).2.2 | (with_reducible refine Kd.C_alloc ?_ _) | (with_reducible refine Kd.C_drewN ?_ _) | (with_reducible refine Kd.C_drew ?_))); (case side4 => exact (Kd.S_reads' HO_7.out).2.1); rintro e w70 ⟨v273, rfl, ho0, hb⟩; refine ⟨_, rfl, ?_⟩; have n0_ := Aside0.mk (Kd.S_elder' (by (with_reducible repeat (first | apply Kd.S_alloc | apply Kd.S_drewN | apply Kd.S_drew)); exact HO_7.out) (Kd.R_base ho0) hb); have n1_ := Aside0.mk (Kd.S_elder' (by (with_reducible repeat (first | apply Kd.S_alloc | apply Kd.S_drewN | apply Kd.S_drew)); exact HO_9.out) (Kd.R_base ho0) hb); have n2_ := Aside0.mk (Kd.S_elder' (by (with_reducible repeat (first | apply Kd.S_alloc | apply Kd.S_drewN | apply Kd.S_drew)); exact HO_11.out) (Kd.R_base ho0) hb); have n3_ := Aside0.mk (Kd.S_elder' (by (with_reducible repeat (first | apply Kd.S_alloc | apply Kd.S_drewN | apply Kd.S_drew)); exact HO_13.out) (Kd.R_base ho0) hb); have n4_ := Aside0.mk (Kd.R_lower ho0 (below_size (by repeat (first | (with_reducible first | exact HB.out | apply below_alloc | apply pw_below_drewN | apply below_drew1) | exact HB.out)))); have n5_ := Aside0.mk (below_step (by repeat (first | (with_reducible first | exact HB.out | apply below_alloc | apply pw_below_drewN | apply below_drew1) | exact HB.out)) hb); clear HO_7; clear HO_9; clear HO_11; clear HO_13; clear HB; have HO_7 := n0_; have HO_9 := n1_; have HO_11 := n2_; have HO_13 := n3_; have HO274 := n4_; have HB := n5_; clear n0_ n1_ n2_ n3_ n4_ n5_; (try clear hb); (try clear hb2); (try clear hk); (try clear hi); (try clear ho0)) | ((with_reducible refine gate_callee (f := 10) rfl ?_); refine goesL_ (some 90) rfl rfl Tryd.func10 (by kernel_rfl) rfl #[] rfl (by (try simp only [List.map_toArray, List.map_cons, List.map_nil]); first | done | rfl | (simp only [List.length_drop, List.length_take]; rfl)) ?_; (with_reducible refine (Go.Proofs.YtfpopmojlmpopaaDoor.H.salchowlaw49_awake.calls  false _ ?side1 A33.out).mono ?_); (case side1 => exact Go.Proofs.YtfpopmojlmpopaaDoor.H.Laid.below HLd.out (by repeat (first | (with_reducible first | exact HB.out | apply below_alloc | apply pw_below_drewN | apply below_drew1) | exact HB.out))); rintro e w71 ⟨rfl, hb⟩; refine ⟨_, rfl, ?_⟩; have n0_ := Aside0.mk (Kd.S_below (by (with_reducible repeat (first | apply Kd.S_alloc | apply Kd.S_drewN | apply Kd.S_drew)); exact HO_7.out) hb); have n1_ := Aside0.mk (Kd.S_below (by (with_reducible repeat (first | apply Kd.S_alloc | apply Kd.S_drewN | apply Kd.S_drew)); exact HO_9.out) hb); have n2_ := Aside0.mk (Kd.S_below (by (with_reducible repeat (first | apply Kd.S_alloc | apply Kd.S_drewN | apply Kd.S_drew)); exact HO_11.out) hb); have n3_ := Aside0.mk (Kd.S_below (by (with_reducible repeat (first | apply Kd.S_alloc | apply Kd.S_drewN | apply Kd.S_drew)); exact HO_13.out) hb); have n4_ := Aside0.mk (Kd.R_below (by (with_reducible repeat (first | apply Kd.R_alloc | apply Kd.R_drewN | apply Kd.R_drew)); exact HO274.out) hb); have n5_ := Aside0.mk (below_step (by repeat (first | (with_reducible first | exact HB.out | apply below_alloc | apply pw_below_drewN | apply below_drew1) | exact HB.out)) hb); clear HO_7; clear HO_9; clear HO_11; clear HO_13; clear HO274; clear HB; have HO_7 := n0_; have HO_9 := n1_; have HO_11 := n2_; have HO_13 := n3_; have HO274 := n4_; have HB := n5_; clear n0_ n1_ n2_ n3_ n4_ n5_; (try clear hb); (try clear hb2); (try clear hk); (try clear hi)))
        go_ret
        exact ⟨by first | rfl | (simp [errW_none, errW_some] <;> rfl) | (simp [*, errW_none, errW_some] <;> rfl), by repeat (first | (with_reducible first | exact HB.out | apply below_alloc | apply pw_below_drewN | apply below_drew1) | exact HB.out)⟩
end Go.Proofs.YtfpopmojlmpopaaDoor.G

end
