/-
  Part 3 of the proof: words about memory and rows, functions of the program as Lean functions with the contracts that its code comes to just their answers, and plain lemmas; no conditions of its own.
-/
import Derived.Test.YtfpopmojlmpopaaDoorBEq1
import Derived.Test.YtfpopmojlmpopaaDoorBEq2
section
namespace Go.Proofs.YtfpopmojlmpopaaDoor.L
open Go.RowKit Go.Proofs.YtfpopmojlmpopaaDoorW.PrintWords Go.Proofs.YtfpopmojlmpopaaDoorW.PrintLast Go.Proofs.YtfpopmojlmpopaaDoorW.PrintMore Go.Proofs.YtfpopmojlmpopaaDoor.G Go.Proofs.YtfpopmojlmpopaaDoor.H
set_option linter.unusedVariables false
set_option linter.unusedSimpArgs false
theorem w1 (i : Nat) (h : i < 9223372036854775807) : wrap64 ((i : Int) + 1) = ((i + 1 : Nat) : Int) := by unfold wrap64; omega
theorem rdOf_nat {α : Type} (d : α) (l : List α) (i : Nat) (h : i < l.length) : rdOf d l (i : Int) = l[i] := by simp [rdOf, List.getD, h]
theorem rdT_nat (l : List S52) (i : Nat) (h : i < l.length) : rd_T52 l (i : Int) = l[i] := by simp [rd_T52, List.getD, h]
theorem drop_at {α : Type} (l : List α) (i : Nat) (h : i < l.length) : l.drop i = l[i] :: l.drop (i + 1) := List.drop_eq_getElem_cons h
theorem drop_all {α : Type} (l : List α) (i : Nat) (h : l.length ≤ i) : l.drop i = [] := List.drop_eq_nil_iff.2 h
theorem list_eq_ba {x y : ByteArray} : x.toList = y.toList ↔ x = y := by
 constructor
 ·intro h
  rw [ByteArray.toList_eq, ByteArray.toList_eq] at h
  obtain ⟨⟨x⟩⟩ := x
  obtain ⟨⟨y⟩⟩ := y
  simp only at h
  rw [h]
 ·rintro rfl; rfl
def few (l : List ByteArray) : Bool := decide (l.length ≤ 14) && l.all fun s => decide (s.size ≤ 200)
theorem few_l0 (l : List ByteArray) (hl : l.length ≤ 14) : ∀ m i : Nat, i + m = l.length → Ev (fun k => salchowref49_Few.l0 k l i) ((l.drop i).all fun s => decide (s.size ≤ 200))
 | 0, i, h => by
  rw [drop_all l i (by omega)]
  exact Ev.step (fun k => by simp only [salchowref49_Few.l0]; rw [if_neg (by omega)]) (Ev.now true)
 | m + 1, i, h => by
  have hi : i < l.length := by omega
  rw [drop_at l i hi, List.all_cons]
  by_cases hc : (l[i].size : Int) > 200
  ·rw [decide_eq_false (by omega), Bool.false_and]
   exact Ev.step (fun k => by simp only [salchowref49_Few.l0]; rw [rdOf_nat _ l i hi, if_pos (by omega), if_pos (by omega), if_pos hc]) (Ev.now false)
  ·rw [decide_eq_true (by omega), Bool.true_and]
   exact Ev.step (fun k => by simp only [salchowref49_Few.l0]; rw [rdOf_nat _ l i hi, if_pos (by omega), if_pos (by omega), if_neg hc, w1 i (by omega)]) (few_l0 l hl m (i + 1) (by omega))
theorem few_ev (l : List ByteArray) : Ev (fun k => salchowref49_Few.f k l) (few l) := by
 unfold few
 by_cases hl : (l.length : Int) > 14
 ·rw [decide_eq_false (by omega), Bool.false_and]
  exact Ev.congr (fun k => by unfold salchowref49_Few.f; rw [if_pos hl]) (Ev.now false)
 ·rw [decide_eq_true (by omega), Bool.true_and]
  have h := few_l0 l (by omega) l.length 0 (by omega)
  rw [List.drop_zero] at h
  exact Ev.congr (fun k => by unfold salchowref49_Few.f; rw [if_neg hl]; rfl) h
def small (l : List ByteArray) (es : List S52) : Bool := few l && decide (es.length ≤ 10) && es.all fun x => few x.f2
theorem small_l0 (n0 n1 n2 n3 n4 : Int) (l : List ByteArray) (es : List S52) (hl : es.length ≤ 10) : ∀ m i : Nat, i + m = es.length → Ev (fun k => salchowref49_Small.l0 k i n0 n1 n2 n3 n4 l es) ((es.drop i).all fun x => few x.f2)
 | 0, i, h => by
  rw [drop_all es i (by omega)]
  exact Ev.step (fun k => by simp only [salchowref49_Small.l0]; rw [if_neg (by omega)]) (Ev.now true)
 | m + 1, i, h => by
  have hi : i < es.length := by omega
  rw [drop_at es i hi, List.all_cons]
  refine Ev.step (f := fun k => (salchowref49_Few.f k (es[i]).f2).bind fun t127 => if t127 = true then salchowref49_Small.l0 k ((i + 1 : Nat) : Int) n0 n1 n2 n3 n4 l es else some false) (fun k => by
   simp only [salchowref49_Small.l0]; rw [rdT_nat es i hi, if_pos (by omega), if_pos (by omega), w1 i (by omega)]) (Ev.bind (few_ev _) ?_)
  by_cases hc : few (es[i]).f2 = true
  ·rw [hc, Bool.true_and]
   exact Ev.congr (fun k => if_pos rfl) (small_l0 n0 n1 n2 n3 n4 l es hl m (i + 1) (by omega))
  ·rw [Bool.not_eq_true] at hc
   rw [hc, Bool.false_and]
   exact Ev.congr (fun k => if_neg (by decide)) (Ev.now false)
theorem small_ev (n0 n1 n2 n3 n4 : Int) (l : List ByteArray) (es : List S52) : Ev (fun k => salchowref49_Small.f k n0 n1 n2 n3 n4 l es) (small l es) := by
 unfold salchowref49_Small.f small
 refine Ev.bind (few_ev _) ?_
 by_cases hc : few l = true
 ·rw [hc, Bool.true_and]
  by_cases hl : (es.length : Int) > 10
  ·rw [decide_eq_false (show ¬ es.length ≤ 10 from by omega), Bool.false_and]
   exact Ev.congr (fun k => if_pos rfl) (Ev.step (fun k => by simp only [salchowref49_Small.j0]; rw [if_pos (decide_eq_true hl)]) (Ev.now false))
  ·rw [decide_eq_true (show es.length ≤ 10 from by omega), Bool.true_and]
   have h := small_l0 n0 n1 n2 n3 n4 l es (by omega) es.length 0 (by omega)
   rw [List.drop_zero] at h
   exact Ev.congr (fun k => if_pos rfl) (Ev.step (fun k => by simp only [salchowref49_Small.j0]; rw [if_neg (by simpa using hl)]; rfl) h)
 ·rw [Bool.not_eq_true] at hc
  rw [hc, Bool.false_and, Bool.false_and]
  exact Ev.congr (fun k => if_neg (by decide)) (Ev.step (fun k => by simp only [salchowref49_Small.j0]; rw [if_pos trivial]) (Ev.now false))
theorem sameLines_l0 (a b : List ByteArray) (hl : a.length = b.length) (hb : a.length ≤ 9223372036854775807) : ∀ m i : Nat, i + m = a.length → Ev (fun k => salchowref49_SameLines.l0 k a b i) (decide (a.drop i = b.drop i))
 | 0, i, h => by
  rw [drop_all a i (by omega), drop_all b i (by omega), decide_eq_true rfl]
  exact Ev.step (fun k => by simp only [salchowref49_SameLines.l0]; rw [if_neg (by omega)]) (Ev.now true)
 | m + 1, i, h => by
  have hi : i < a.length := by omega
  have hj : i < b.length := by omega
  rw [drop_at a i hi, drop_at b i hj]
  by_cases hc : a[i] = b[i]
  ·have e : decide (a[i] :: a.drop (i + 1) = b[i] :: b.drop (i + 1)) = decide (a.drop (i + 1) = b.drop (i + 1)) := decide_eq_decide.2 (by rw [hc]; exact ⟨fun h => (List.cons.inj h).2, fun h => by rw [h]⟩)
   rw [e]
   exact Ev.step (fun k => by simp only [salchowref49_SameLines.l0]; rw [rdOf_nat _ a i hi, rdOf_nat _ b i hj, if_pos (by omega), if_pos (by omega), if_pos (by omega), if_pos (by rw [hc]), w1 i (by omega)]) (sameLines_l0 a b hl hb m (i + 1) (by omega))
  ·have e : decide (a[i] :: a.drop (i + 1) = b[i] :: b.drop (i + 1)) = false := decide_eq_false (fun h => hc (List.cons.inj h).1)
   rw [e]
   exact Ev.step (fun k => by simp only [salchowref49_SameLines.l0]; rw [rdOf_nat _ a i hi, rdOf_nat _ b i hj, if_pos (by omega), if_pos (by omega), if_pos (by omega), if_neg (fun h => hc (list_eq_ba.1 h))]) (Ev.now false)
theorem sameLines_ev (a b : List ByteArray) (hb : a.length ≤ 9223372036854775807) : Ev (fun k => salchowref49_SameLines.f k a b) (decide (a = b)) := by
 unfold salchowref49_SameLines.f
 by_cases hl : a.length = b.length
 ·have h := sameLines_l0 a b hl hb a.length 0 (by omega)
  rw [List.drop_zero, List.drop_zero] at h
  exact Ev.congr (fun k => if_pos (by omega)) h
 ·have e : decide (a = b) = false := decide_eq_false (fun h => hl (by rw [h]))
  rw [e]
  exact Ev.congr (fun k => if_neg (by omega)) (Ev.now false)
theorem sameEdits_l0 (a b : List S52) (hl : a.length = b.length) (hb : a.length ≤ 9223372036854775807) (hs : ∀ x ∈ a, x.f2.length ≤ 9223372036854775807) : ∀ m i : Nat, i + m = a.length → Ev (fun k => salchowref49_SameEdits.l0 k a b i) ((List.zipWith sameE (a.drop i) (b.drop i)).all id)
 | 0, i, h => by
  rw [drop_all a i (by omega), drop_all b i (by omega)]
  exact Ev.step (fun k => by simp only [salchowref49_SameEdits.l0]; rw [if_neg (by omega)]) (Ev.now true)
 | m + 1, i, h => by
  have hi : i < a.length := by omega
  have hj : i < b.length := by omega
  rw [drop_at a i hi, drop_at b i hj, List.zipWith_cons_cons, List.all_cons]
  by_cases c0 : a[i].f0 = b[i].f0
  ·by_cases c1 : a[i].f1 = b[i].f1
   ·refine Ev.step (f := fun k => (salchowref49_SameLines.f k (a[i]).f2 (b[i]).f2).bind fun t232 => if t232 = true then salchowref49_SameEdits.l0 k a b ((i + 1 : Nat) : Int) else some false) (fun k => by
     simp only [salchowref49_SameEdits.l0]; rw [rdT_nat a i hi, rdT_nat b i hj, if_pos (by omega), if_pos (by omega), if_pos (by omega), if_pos c0, if_pos c1, w1 i (by omega)]) (Ev.bind (sameLines_ev _ _ (hs _ (List.getElem_mem _))) ?_)
    have e : id (sameE a[i] b[i]) = decide (a[i].f2 = b[i].f2) := by simp [sameE, c0, c1]
    rw [e]
    by_cases c2 : a[i].f2 = b[i].f2
    ·rw [decide_eq_true c2, Bool.true_and]
     exact Ev.congr (fun k => if_pos rfl) (sameEdits_l0 a b hl hb hs m (i + 1) (by omega))
    ·rw [decide_eq_false c2, Bool.false_and]
     exact Ev.congr (fun k => if_neg (by decide)) (Ev.now false)
   ·have e : id (sameE a[i] b[i]) = false := by simp [sameE, c0, c1]
    rw [e, Bool.false_and]
    exact Ev.step (fun k => by simp only [salchowref49_SameEdits.l0]; rw [rdT_nat a i hi, rdT_nat b i hj, if_pos (by omega), if_pos (by omega), if_pos (by omega), if_pos c0, if_neg c1]) (Ev.now false)
  ·have e : id (sameE a[i] b[i]) = false := by simp [sameE, c0]
   rw [e, Bool.false_and]
   exact Ev.step (fun k => by simp only [salchowref49_SameEdits.l0]; rw [rdT_nat a i hi, rdT_nat b i hj, if_pos (by omega), if_pos (by omega), if_pos (by omega), if_neg c0]) (Ev.now false)
theorem sameEdits_ev (a b : List S52) (hb : a.length ≤ 9223372036854775807) (hs : ∀ x ∈ a, x.f2.length ≤ 9223372036854775807) : Ev (fun k => salchowref49_SameEdits.f k a b) (eqEdits a b) := by
 unfold salchowref49_SameEdits.f eqEdits
 by_cases hl : a.length = b.length
 ·have h := sameEdits_l0 a b hl hb hs a.length 0 (by omega)
  rw [List.drop_zero, List.drop_zero] at h
  rw [decide_eq_true hl, Bool.true_and]
  exact Ev.congr (fun k => if_pos (by omega)) h
 ·rw [decide_eq_false hl, Bool.false_and]
  exact Ev.congr (fun k => if_neg (by omega)) (Ev.now false)
theorem sameE_refl (x : S52) : sameE x x = true := by simp [sameE]
theorem eqEdits_refl (a : List S52) : eqEdits a a = true := by
 unfold eqEdits
 rw [decide_eq_true rfl, Bool.true_and]
 induction a with
 | nil => rfl
 | cons x a ih => rw [List.zipWith_cons_cons, List.all_cons, ih]; simp [sameE_refl]
theorem refEqual_ev (a0 a1 a2 a3 a4 : Int) (a5 : List ByteArray) (a6 : List S52) (b0 b1 b2 b3 b4 : Int) (b5 : List ByteArray) (b6 : List S52) (h5 : a5.length ≤ 9223372036854775807) (h6 : a6.length ≤ 9223372036854775807) (hs : ∀ x ∈ a6, x.f2.length ≤ 9223372036854775807) :
  Ev (fun k => salchowref49_Equal.f k a0 a1 a2 a3 a4 a5 a6 b0 b1 b2 b3 b4 b5 b6) (eqF a0 a1 a2 a3 a4 a5 a6 b0 b1 b2 b3 b4 b5 b6) := by
 unfold salchowref49_Equal.f eqF
 by_cases c0 : a0 = b0
 ·by_cases c1 : a1 = b1
  ·by_cases c2 : a2 = b2
   ·by_cases c3 : a3 = b3
    ·by_cases c4 : a4 = b4
     ·subst c0 c1 c2 c3 c4
      simp only [if_true, beq_self_eq_true, Bool.true_and]
      refine Ev.bind (sameLines_ev a5 b5 h5) ?_
      by_cases c5 : a5 = b5
      ·rw [decide_eq_true c5, Bool.true_and]
       exact Ev.congr (fun k => if_pos rfl) (Ev.bind (sameEdits_ev a6 b6 h6 hs) (Ev.now _))
      ·rw [decide_eq_false c5, Bool.false_and]
       exact Ev.congr (fun k => if_neg (by decide)) (Ev.now false)
     ·simp only [c0, c1, c2, c3, c4, if_true, if_false, beq_self_eq_true, Bool.true_and, beq_eq_false_iff_ne.2 c4, Bool.false_and]
      exact Ev.now false
    ·simp only [c0, c1, c2, c3, if_true, if_false, beq_self_eq_true, Bool.true_and, beq_eq_false_iff_ne.2 c3, Bool.false_and]
     exact Ev.now false
   ·simp only [c0, c1, c2, if_true, if_false, beq_self_eq_true, Bool.true_and, beq_eq_false_iff_ne.2 c2, Bool.false_and]
    exact Ev.now false
  ·simp only [c0, c1, if_true, if_false, beq_self_eq_true, Bool.true_and, beq_eq_false_iff_ne.2 c1, Bool.false_and]
   exact Ev.now false
 ·simp only [c0, if_false, beq_eq_false_iff_ne.2 c0, Bool.false_and]
  exact Ev.now false
theorem eqF_refl (a0 a1 a2 a3 a4 : Int) (a5 : List ByteArray) (a6 : List S52) : eqF a0 a1 a2 a3 a4 a5 a6 a0 a1 a2 a3 a4 a5 a6 = true := by
 simp [eqF, eqEdits_refl]
end Go.Proofs.YtfpopmojlmpopaaDoor.L

end
section
namespace Go.Proofs.YtfpopmojlmpopaaDoor.H
open Go.RowKit Go.Proofs.YtfpopmojlmpopaaDoorW.PrintWords Go.Proofs.YtfpopmojlmpopaaDoorW.PrintLast Go.Proofs.YtfpopmojlmpopaaDoorW.PrintMore
set_option linter.unusedVariables false
set_option linter.unusedSimpArgs false
def isDig (b : UInt8) : Bool := decide (48 ≤ b.toNat) && decide (b.toNat ≤ 57)
def dEnd (s : ByteArray) (i : Nat) : Nat := i + ((s.data.toList.drop i).takeWhile isDig).length
def okNum (d : ByteArray) : Bool := (d.toList == [48]) || ((d.toList != []) && (bt d 0 != 48))
theorem tw_in (p : UInt8 → Bool) (l : List UInt8) (j : Nat) (h : j < (l.takeWhile p).length) : ∃ h' : j < l.length, p l[j] = true := by
 induction l generalizing j with
 | nil => simp at h
 | cons x l ih =>
  by_cases hx : p x = true
  ·rw [List.takeWhile_cons_of_pos hx] at h
   cases j with
   | zero => exact ⟨by simp, hx⟩
   | succ j => obtain ⟨h1, h2⟩ := ih j (by simpa using h); exact ⟨by simpa using h1, h2⟩
  ·rw [List.takeWhile_cons_of_neg hx] at h; simp at h
theorem tw_stop (p : UInt8 → Bool) (l : List UInt8) (h : (l.takeWhile p).length < l.length) : p (l[(l.takeWhile p).length]) = false := by
 induction l with
 | nil => simp at h
 | cons x l ih =>
  by_cases hx : p x = true
  ·have e := List.takeWhile_cons_of_pos (l := l) hx
   simp only [e, List.length_cons] at h ⊢
   simpa using ih (by omega)
  ·have e := List.takeWhile_cons_of_neg (l := l) hx
   simp only [e, List.length_nil, List.getElem_cons_zero]
   simpa using hx
theorem tw_le (p : UInt8 → Bool) (l : List UInt8) : (l.takeWhile p).length ≤ l.length := (List.takeWhile_sublist p).length_le
theorem size_list (s : ByteArray) : s.data.toList.length = s.size := by rw [Array.length_toList]; rfl
theorem bt_nat (s : ByteArray) (k : Nat) (h : k < s.size) : bt s (k : Int) = ((s.data.toList[k]'(by rw [size_list]; exact h)).toNat : Int) := by
 have h' : ((k : Int)).toNat < s.size := by rw [Int.toNat_natCast]; exact h
 unfold bt
 rw [dif_pos h']
 rfl
theorem dEnd_ge (s : ByteArray) (i : Nat) : i ≤ dEnd s i := by unfold dEnd; omega
theorem dEnd_le (s : ByteArray) (i : Nat) (h : i ≤ s.size) : dEnd s i ≤ s.size := by
 have := tw_le isDig (s.data.toList.drop i)
 rw [List.length_drop, size_list] at this
 unfold dEnd; omega
theorem dEnd_in (s : ByteArray) (i k : Nat) (h1 : i ≤ k) (h2 : k < dEnd s i) : k < s.size ∧ 48 ≤ bt s k ∧ bt s k ≤ 57 := by
 obtain ⟨h3, h4⟩ := tw_in isDig (s.data.toList.drop i) (k - i) (by unfold dEnd at h2; omega)
 have h5 : k < s.size := by rw [List.length_drop, size_list] at h3; omega
 refine ⟨h5, ?_⟩
 rw [bt_nat s k h5]
 simp only [List.getElem_drop, show i + (k - i) = k from by omega, isDig, Bool.and_eq_true, decide_eq_true_eq] at h4
 omega
theorem dEnd_stop (s : ByteArray) (i : Nat) (h : dEnd s i < s.size) : ¬ (48 ≤ bt s (dEnd s i : Nat) ∧ bt s (dEnd s i : Nat) ≤ 57) := by
 have h1 : ((s.data.toList.drop i).takeWhile isDig).length < (s.data.toList.drop i).length := by rw [List.length_drop, size_list]; unfold dEnd at h; omega
 have h2 := tw_stop isDig (s.data.toList.drop i) h1
 rw [bt_nat s _ h]
 simp only [List.getElem_drop, isDig, Bool.and_eq_false_iff, decide_eq_false_iff_not] at h2
 unfold dEnd
 omega
theorem bytes_ne (d : ByteArray) (l : List UInt8) (b : ByteArray) (hb : b.data.toList = l) (h : d ≠ b) : (d.toList == l) = false := by
 rw [ByteArray.toList_eq, beq_eq_false_iff_ne, ← hb]
 intro hc
 apply h
 obtain ⟨⟨x⟩⟩ := d
 obtain ⟨⟨y⟩⟩ := b
 simp only at hc
 rw [hc]
theorem okNum_48 : okNum ⟨#[48]⟩ = true := by simp [okNum, ByteArray.toList_eq]
theorem okNum_0 : okNum ⟨#[]⟩ = false := by simp [okNum, ByteArray.toList_eq]
theorem okNum_any (d : ByteArray) (h1 : (d.toList == [48]) = false) (h2 : (d.toList == []) = false) (h3 : 0 < d.size) : okNum d = (((d[0]'h3).toNat : Int) != 48) := by
 have h := bt_at d 0 h3
 show ((d.toList == [48]) || ((!(d.toList == [])) && !(bt d 0 == 48))) = _
 rw [h1, h2, ← h]
 rfl
set_option maxRecDepth 100000 in
set_option maxHeartbeats 1000000 in
theorem encode_digits_calls (s : ByteArray) (i : Nat) (hi : i ≤ s.size) (hs : s.size ≤ 140737488355328) (w : World) :
  Calls Tryd.prog 69 #[.string s, .int .i64 i] w fun e w' => e = .returned (.tuple #[.string (s.extract i (dEnd s i)), .bool (okNum (s.extract i (dEnd s i)))]) ∧ Drawn0 w w' := by
 have hde := dEnd_le s i hi
 have hge := dEnd_ge s i
 have HIN := Lib.hid (dEnd_in s i)
 have HST := Lib.hid (dEnd_stop s i)
 obtain ⟨n, hn⟩ : ∃ n, dEnd s i = n := ⟨_, rfl⟩
 rw [hn] at hde hge HIN HST ⊢
 clear hn
 go_enter Tryd.func69, Tryd.ntmps69
 go_wp2_with fail
 go_loop [6] (fun v => ∃ k : Nat, i ≤ k ∧ k ≤ n ∧ v = .int .i64 k) (fun v => n - (intOf v).toNat)
 case atStart => exact ⟨i, Nat.le_refl _, hge, rfl⟩
 case round =>
  obtain ⟨k, hk0, hk1, rfl⟩ := hrel
  by_cases hlt : k < n
  ·obtain ⟨hks, hb0, hb1⟩ := HIN.out k hk0 hlt
   have c1 : decide ((k : Int) < (s.size : Int)) = true := decide_eq_true (by omega)
   have c2 := eq_true (show (0 : Int) ≤ (k : Int) from by omega)
   have c3 := eq_true (show (k : Int) < (s.size : Int) from by omega)
   have hx : ((s[k]'hks).toNat : Int) = bt s (k : Int) := by simpa using bt_at s (k : Int) (by simpa using hks)
   have d0 : decide (48 ≤ ((s[k]'hks).toNat : Int)) = true := decide_eq_true (by omega)
   have d1 : decide (((s[k]'hks).toNat : Int) ≤ 57) = true := decide_eq_true (by omega)
   have d0' := eq_true (show 48 ≤ ((s[k]'hks).toNat : Int) from by omega)
   have d1' := eq_true (show ((s[k]'hks).toNat : Int) ≤ 57 from by omega)
   have d2' := eq_false (show ¬ (57 < ((s[k]'hks).toNat : Int)) from by omega)
   go_wp2_with fail
   go_round
   case rel => exact ⟨k + 1, by omega, by omega, by go_num⟩
   case measure => simp [intOf]; omega
  ·obtain rfl : k = n := by omega
   have e0 := eq_true (show (0 : Int) ≤ (i : Int) from by omega)
   have e1 := eq_true (show (i : Int) ≤ (k : Int) from by omega)
   have e2 := eq_true (show (k : Int) ≤ (s.size : Int) from by omega)
   have e0' := decide_eq_true (show (0 : Int) ≤ (i : Int) from by omega)
   have e1' := decide_eq_true (show (i : Int) ≤ (k : Int) from by omega)
   have e2' := decide_eq_true (show (k : Int) ≤ (s.size : Int) from by omega)
   obtain ⟨d, hd⟩ : ∃ d, s.extract i k = d := ⟨_, rfl⟩
   rcases (show k = s.size ∨ (∃ h : k < s.size, ((s[k]'h).toNat : Int) < 48) ∨ (∃ h : k < s.size, 48 ≤ ((s[k]'h).toNat : Int) ∧ 57 < ((s[k]'h).toNat : Int)) from by
    by_cases hks : k < s.size
    ·have hx : ((s[k]'hks).toNat : Int) = bt s (k : Int) := by simpa using bt_at s (k : Int) (by simpa using hks)
     have := HST.out hks
     by_cases h48 : ((s[k]'hks).toNat : Int) < 48
     ·exact .inr (.inl ⟨hks, h48⟩)
     ·exact .inr (.inr ⟨hks, by omega, by omega⟩)
    ·exact .inl (by omega)) with hz | ⟨hz, hz1⟩ | ⟨hz, hz1, hz2⟩
   ·have z1 : decide ((k : Int) < (s.size : Int)) = false := decide_eq_false (by omega)
    subst hz
    go_wp2_with fail
    rcases Classical.em (d = ⟨#[48]⟩) with r1 | r1
    ·subst r1
     go_quiet (fail)
     go_wp2_with fail
     go_ret2
     exact ⟨by rw [hd, okNum_48]; rfl, _, rfl⟩
    ·have r2 : (d.toList == [48]) = false := bytes_ne d [48] ⟨#[48]⟩ rfl r1
     rcases Classical.em (d = ⟨#[]⟩) with r3 | r3
     ·subst r3
      go_quiet (fail)
      go_wp2_with fail
      go_ret2
      exact ⟨by rw [hd, okNum_0]; rfl, _, rfl⟩
     ·have r4 : (d.toList == []) = false := bytes_ne d [] ⟨#[]⟩ rfl r3
      have r5 : 0 < d.size := Nat.pos_of_ne_zero fun h => r3 (by
       cases d with | mk d => simp only [ByteArray.size] at h; rw [Array.eq_empty_of_size_eq_zero h])
      have r6 := eq_true r5
      have r7 := bt_at d 0 r5
      go_quiet (fail)
      go_wp2_with fail
      go_ret2
      exact ⟨by rw [hd, okNum_any d r2 r4 r5]; rfl, _, rfl⟩
   ·have z1 : decide ((k : Int) < (s.size : Int)) = true := decide_eq_true (by omega)
    have z2 : decide (48 ≤ ((s[k]'hz).toNat : Int)) = false := decide_eq_false (by omega)
    go_wp2_with fail
    rcases Classical.em (d = ⟨#[48]⟩) with r1 | r1
    ·subst r1
     go_quiet (fail)
     go_wp2_with fail
     go_ret2
     exact ⟨by rw [hd, okNum_48]; rfl, _, rfl⟩
    ·have r2 : (d.toList == [48]) = false := bytes_ne d [48] ⟨#[48]⟩ rfl r1
     rcases Classical.em (d = ⟨#[]⟩) with r3 | r3
     ·subst r3
      go_quiet (fail)
      go_wp2_with fail
      go_ret2
      exact ⟨by rw [hd, okNum_0]; rfl, _, rfl⟩
     ·have r4 : (d.toList == []) = false := bytes_ne d [] ⟨#[]⟩ rfl r3
      have r5 : 0 < d.size := Nat.pos_of_ne_zero fun h => r3 (by
       cases d with | mk d => simp only [ByteArray.size] at h; rw [Array.eq_empty_of_size_eq_zero h])
      have r6 := eq_true r5
      have r7 := bt_at d 0 r5
      go_quiet (fail)
      go_wp2_with fail
      go_ret2
      exact ⟨by rw [hd, okNum_any d r2 r4 r5]; rfl, _, rfl⟩
   ·have z1 : decide ((k : Int) < (s.size : Int)) = true := decide_eq_true (by omega)
    have z2 : decide (48 ≤ ((s[k]'hz).toNat : Int)) = true := decide_eq_true (by omega)
    have z3 : decide (((s[k]'hz).toNat : Int) ≤ 57) = false := decide_eq_false (by omega)
    go_wp2_with fail
    rcases Classical.em (d = ⟨#[48]⟩) with r1 | r1
    ·subst r1
     go_quiet (fail)
     go_wp2_with fail
     go_ret2
     exact ⟨by rw [hd, okNum_48]; rfl, _, rfl⟩
    ·have r2 : (d.toList == [48]) = false := bytes_ne d [48] ⟨#[48]⟩ rfl r1
     rcases Classical.em (d = ⟨#[]⟩) with r3 | r3
     ·subst r3
      go_quiet (fail)
      go_wp2_with fail
      go_ret2
      exact ⟨by rw [hd, okNum_0]; rfl, _, rfl⟩
     ·have r4 : (d.toList == []) = false := bytes_ne d [] ⟨#[]⟩ rfl r3
      have r5 : 0 < d.size := Nat.pos_of_ne_zero fun h => r3 (by
       cases d with | mk d => simp only [ByteArray.size] at h; rw [Array.eq_empty_of_size_eq_zero h])
      have r6 := eq_true r5
      have r7 := bt_at d 0 r5
      go_quiet (fail)
      go_wp2_with fail
      go_ret2
      exact ⟨by rw [hd, okNum_any d r2 r4 r5]; rfl, _, rfl⟩
end Go.Proofs.YtfpopmojlmpopaaDoor.H

end
section
namespace Go.Proofs.YtfpopmojlmpopaaDoor.H
open Go.RowKit Go.Proofs.YtfpopmojlmpopaaDoorW.PrintWords Go.Proofs.YtfpopmojlmpopaaDoorW.PrintLast Go.Proofs.YtfpopmojlmpopaaDoorW.PrintMore
set_option linter.unusedVariables false
set_option linter.unusedSimpArgs false
def minusAt (s : ByteArray) (i : Nat) : Bool := Lib.hasPrefix (s.extract (i + 1) s.size).data.toList [45]
def fromAt (s : ByteArray) (i : Nat) : Nat := if minusAt s i then i + 2 else i + 1
def integerN (s : ByteArray) (i : Nat) : Option (Int × Nat) :=
 if i < s.size ∧ bt s i = 105 then
  if okNum (s.extract (fromAt s i) (dEnd s (fromAt s i))) = true ∧ ¬ (minusAt s i = true ∧ s.extract (fromAt s i) (dEnd s (fromAt s i)) = ⟨#[48]⟩) ∧ dEnd s (fromAt s i) < s.size ∧ bt s (dEnd s (fromAt s i) : Nat) = 59 then
   match Lib.parseIntB 64 (s.extract (i + 1) (dEnd s (fromAt s i))).data.toList with
   | .ok v => some (v, dEnd s (fromAt s i) + 1)
   | _ => none
  else none
 else none
def outN : Option (Int × Nat) → Int × Int
 | some (v, n) => (v, n)
 | none => (0, -1)
theorem minus_lt (s : ByteArray) (i : Nat) (h : minusAt s i = true) : i + 1 < s.size := by
 by_cases hc : i + 1 < s.size
 ·exact hc
 ·have : s.extract (i + 1) s.size = ⟨#[]⟩ := by
   apply ByteArray.ext
   simp only [ByteArray.data_extract]
   apply Array.extract_empty_of_size_le_start
   show s.size ≤ i + 1
   omega
  unfold minusAt at h
  rw [this] at h
  simp [Lib.hasPrefix] at h
set_option maxHeartbeats 8000000 in
set_option maxRecDepth 100000 in
theorem encode_integer_calls (s : ByteArray) (i : Nat) (hi : i ≤ s.size) (hs : s.size ≤ 140737488355328) (w : World) (hL : Laid w) :
  Calls Tryd.prog 57 #[.string s, .int .i64 i] w fun e w' => e = .returned (.tuple #[.int .i64 (outN (integerN s i)).1, .int .i64 (outN (integerN s i)).2]) ∧ Below w.heap.size w w' := by
 obtain ⟨r, hr⟩ : ∃ r, integerN s i = r := ⟨_, rfl⟩
 rw [hr]
 have HL := Lib.hid hL
 have HR := Lib.hid hr
 clear hL hr
 go_enter Tryd.func57, Tryd.ntmps57
 rcases (show i = s.size ∨ ∃ h : i < s.size, ((s[i]'h).toNat : Int) = bt s (i : Int) from by
  by_cases h : i < s.size
  ·exact .inr ⟨h, by simpa using bt_at s (i : Int) (by simpa using h)⟩
  ·exact .inl (by omega)) with hz | ⟨hz, hb⟩
 ·subst hz
  obtain rfl : r = none := by rw [← HR.out]; simp [integerN]
  go_wp2_with fail
  go_ret2
  exact ⟨rfl, Below.refl _ _⟩
 ·have x1 := eq_false (show ¬ ((s.size : Int) ≤ (i : Int)) from by omega)
  have x2 := eq_true (show (0 : Int) ≤ (i : Int) from by omega)
  have x3 := eq_true (show (i : Int) < (s.size : Int) from by omega)
  have x4 := eq_true hz
  by_cases h105 : bt s (i : Int) = 105
  ·have y1 : (((s[i]'hz).toNat : Int) == 105) = true := by rw [hb, h105]; rfl
   have y2 : (((s[i]'hz).toNat : Int) != 105) = false := by rw [bne, y1]; rfl
   have x5 := eq_true (show (0 : Int) ≤ (i : Int) + 1 from by omega)
   have x6 := eq_true (show (i : Int) + 1 ≤ (s.size : Int) from by omega)
   have x7 : ((i : Int) + 1).toNat = i + 1 := by omega
   have x8 : ((i : Int) + 2).toNat = i + 2 := by omega
   go_wp2_with fail
   refine (Tryd.strings_HasPrefix (s.extract (i + 1) s.size) ⟨#[45]⟩ w).mono ?_
   rintro e w0 ⟨rfl, hw0⟩
   rw [hw0]
   clear hw0
   obtain ⟨m, hm⟩ : ∃ m, minusAt s i = m := ⟨_, rfl⟩
   have hm' : Lib.hasPrefix (s.extract (i + 1) s.size).data.toList [45] = m := hm
   simp only [hm']
   cases m
   ·go_wp2_with fail
    obtain ⟨n, hn⟩ : ∃ n, dEnd s (i + 1) = n := ⟨_, rfl⟩
    have hnle := dEnd_le s (i + 1) (by omega)
    have hnge := dEnd_ge s (i + 1)
    refine (encode_digits_calls s (i + 1) (by omega) hs w).mono ?_
    rintro e w1 ⟨rfl, hw1⟩
    rw [hn] at hnle hnge
    have HW1 := Lib.hid hw1
    clear hw1
    simp only [hn]
    have hdz : (s.extract (i + 1) n).size = n - (i + 1) := by rw [ByteArray.size_extract]; omega
    obtain ⟨d, hd⟩ : ∃ d, s.extract (i + 1) n = d := ⟨_, rfl⟩
    rw [hd] at hdz ⊢
    obtain ⟨ok, hok⟩ : ∃ ok, okNum d = ok := ⟨_, rfl⟩
    rw [hok]
    have hfr : fromAt s i = i + 1 := by simp [fromAt, hm]
    have v1 : ((i : Int) + 1) + (d.size : Int) = (n : Int) := by omega
    clear hdz
    cases ok
    ·obtain rfl : r = none := by rw [← HR.out]; simp [integerN, hfr, hn, hd, hok]
     go_wp2_with fail
     go_ret2
     exact ⟨rfl, HW1.out.below⟩
    ·skip
     by_cases hn1 : n < s.size
     ·have q1 := eq_false (show ¬ ((s.size : Int) ≤ (n : Int)) from by omega)
      have q2 := eq_true (show (0 : Int) ≤ (n : Int) from by omega)
      have q3 := eq_true (show (n : Int) < (s.size : Int) from by omega)
      have q4 := eq_true hn1
      have q5 : ((s[n]'hn1).toNat : Int) = bt s (n : Int) := by simpa using bt_at s (n : Int) (by simpa using hn1)
      by_cases hn59 : bt s (n : Int) = 59
      ·have q6 : (((s[n]'hn1).toNat : Int) == 59) = true := by rw [q5, hn59]; rfl
       have q7 : (((s[n]'hn1).toNat : Int) != 59) = false := by rw [bne, q6]; rfl
       have p1 := eq_true (show (0 : Int) ≤ (i : Int) + 1 from by omega)
       have p2 := eq_true (show (i : Int) + 1 ≤ (n : Int) from by omega)
       have p3 := eq_true (show (n : Int) ≤ (s.size : Int) from by omega)
       go_wp2_with fail
       have hpz : (s.extract (i + 1) n).size ≤ s.size := by rw [ByteArray.size_extract]; omega
       have hpz2 : d.size ≤ s.size := by rw [← hd]; exact hpz
       cases hp : Lib.parseIntB 64 (s.extract (i + 1) n).data.toList with
       | ok v =>
        have hp2 : Lib.parseIntB 64 d.data.toList = .ok v := by rw [← hd]; exact hp
        obtain rfl : r = some (v, n + 1) := by rw [← HR.out]; simp only [integerN, hz, h105, hfr, hn, hd, hok, hn1, hn59, hp2, hm, and_self, not_false_eq_true, false_and, and_false, Bool.false_eq_true, if_true]
        refine (Tryd.strconv_ParseInt_10_at64_ok d (Nat.le_trans hpz2 (Nat.le_trans hs (by decide))) v hp2 w1).mono ?_
        rintro e w2 ⟨rfl, hw2⟩
        have HW2 : Hid (Below w.heap.size w w2) := Lib.hid (by
         rcases hw2 with rfl | ⟨t, rfl⟩
         ·exact HW1.out.below
         ·exact bytes_below HW1.out.below HW1.out.below.size _ _)
        clear hw2
        go_wp2_with fail
        go_ret2
        exact ⟨rfl, HW2.out⟩
       | range =>
        have hp2 : Lib.parseIntB 64 d.data.toList = .range := by rw [← hd]; exact hp
        obtain rfl : r = none := by rw [← HR.out]; simp only [integerN, hz, h105, hfr, hn, hd, hok, hn1, hn59, hp2, hm, and_self, not_false_eq_true, false_and, and_false, Bool.false_eq_true, if_true]
        obtain ⟨tp, p, hv⟩ := (HL.out.below HW1.out.below).range
        refine (Tryd.strconv_ParseInt_10_at64_range_var d (Nat.le_trans hpz2 (Nat.le_trans hs (by decide))) hp2 tp p w1 hv).mono ?_
        rintro e w2 ⟨N, rfl, hN, hb2, hbl⟩
        clear hv hb2
        have HW2 : Hid (Below w.heap.size w w2) := Lib.hid (HW1.out.below.trans (hbl.mono HW1.out.below.size))
        clear hbl
        go_wp2_with fail
        go_ret2
        exact ⟨rfl, HW2.out⟩
       | _ =>
        have hp2 := hp
        rw [hd] at hp2
        obtain rfl : r = none := by rw [← HR.out]; simp only [integerN, hz, h105, hfr, hn, hd, hok, hn1, hn59, hp2, hm, and_self, not_false_eq_true, false_and, and_false, Bool.false_eq_true, if_true]
        obtain ⟨tp, p, hv⟩ := (HL.out.below HW1.out.below).stx
        refine (Tryd.strconv_ParseInt_10_at64_syntax_var d (Nat.le_trans hpz2 (Nat.le_trans hs (by decide))) (hp2.trans (by kernel_rfl)) tp p w1 hv).mono ?_
        rintro e w2 ⟨N, rfl, hN, hb2, hbl⟩
        clear hv hb2
        have HW2 : Hid (Below w.heap.size w w2) := Lib.hid (HW1.out.below.trans (hbl.mono HW1.out.below.size))
        clear hbl
        go_wp2_with fail
        go_ret2
        exact ⟨rfl, HW2.out⟩
      ·obtain rfl : r = none := by rw [← HR.out]; simp [integerN, hfr, hn, hd, hn59]
       have q6 : (((s[n]'hn1).toNat : Int) == 59) = false := by rw [q5]; simpa using hn59
       have q7 : (((s[n]'hn1).toNat : Int) != 59) = true := by rw [bne, q6]; rfl
       go_wp2_with fail
       go_ret2
       exact ⟨rfl, HW1.out.below⟩
     ·obtain rfl : r = none := by rw [← HR.out]; simp [integerN, hfr, hn, hd, hn1]
      have q1 := eq_true (show ((s.size : Int) ≤ (n : Int)) from by omega)
      go_wp2_with fail
      go_ret2
      exact ⟨rfl, HW1.out.below⟩
   ·have x9 := minus_lt s i hm
    go_wp2_with fail
    obtain ⟨n, hn⟩ : ∃ n, dEnd s (i + 2) = n := ⟨_, rfl⟩
    have hnle := dEnd_le s (i + 2) (by omega)
    have hnge := dEnd_ge s (i + 2)
    refine (encode_digits_calls s (i + 2) (by omega) hs w).mono ?_
    rintro e w1 ⟨rfl, hw1⟩
    rw [hn] at hnle hnge
    have HW1 := Lib.hid hw1
    clear hw1
    simp only [hn]
    have hdz : (s.extract (i + 2) n).size = n - (i + 2) := by rw [ByteArray.size_extract]; omega
    obtain ⟨d, hd⟩ : ∃ d, s.extract (i + 2) n = d := ⟨_, rfl⟩
    rw [hd] at hdz ⊢
    obtain ⟨ok, hok⟩ : ∃ ok, okNum d = ok := ⟨_, rfl⟩
    rw [hok]
    have hfr : fromAt s i = i + 2 := by simp [fromAt, hm]
    have v1 : ((i : Int) + 1 + 1) + (d.size : Int) = (n : Int) := by omega
    clear hdz
    cases ok
    ·obtain rfl : r = none := by rw [← HR.out]; simp [integerN, hfr, hn, hd, hok]
     go_wp2_with fail
     go_ret2
     exact ⟨rfl, HW1.out.below⟩
    ·skip
     by_cases h48 : d = ⟨#[48]⟩
     ·obtain rfl : r = none := by rw [← HR.out]; simp [integerN, hfr, hn, hd, hm, h48]
      subst h48
      go_wp2_with fail
      go_ret2
      exact ⟨rfl, HW1.out.below⟩
     ·have z1 := bytes_ne d [48] ⟨#[48]⟩ rfl h48
      by_cases hn1 : n < s.size
      ·have q1 := eq_false (show ¬ ((s.size : Int) ≤ (n : Int)) from by omega)
       have q2 := eq_true (show (0 : Int) ≤ (n : Int) from by omega)
       have q3 := eq_true (show (n : Int) < (s.size : Int) from by omega)
       have q4 := eq_true hn1
       have q5 : ((s[n]'hn1).toNat : Int) = bt s (n : Int) := by simpa using bt_at s (n : Int) (by simpa using hn1)
       by_cases hn59 : bt s (n : Int) = 59
       ·have q6 : (((s[n]'hn1).toNat : Int) == 59) = true := by rw [q5, hn59]; rfl
        have q7 : (((s[n]'hn1).toNat : Int) != 59) = false := by rw [bne, q6]; rfl
        have p1 := eq_true (show (0 : Int) ≤ (i : Int) + 1 from by omega)
        have p2 := eq_true (show (i : Int) + 1 ≤ (n : Int) from by omega)
        have p3 := eq_true (show (n : Int) ≤ (s.size : Int) from by omega)
        go_wp2_with fail
        have hpz : (s.extract (i + 1) n).size ≤ s.size := by rw [ByteArray.size_extract]; omega
        have hpz2 : (s.extract (i + 1) n).size ≤ s.size := by exact hpz
        cases hp : Lib.parseIntB 64 (s.extract (i + 1) n).data.toList with
        | ok v =>
         have hp2 := hp
         obtain rfl : r = some (v, n + 1) := by rw [← HR.out]; simp only [integerN, hz, h105, hfr, hn, hd, hok, hn1, hn59, hp2, hm, h48, and_self, not_false_eq_true, false_and, and_false, Bool.false_eq_true, if_true]
         refine (Tryd.strconv_ParseInt_10_at64_ok (s.extract (i + 1) n) (Nat.le_trans hpz2 (Nat.le_trans hs (by decide))) v hp2 w1).mono ?_
         rintro e w2 ⟨rfl, hw2⟩
         have HW2 : Hid (Below w.heap.size w w2) := Lib.hid (by
          rcases hw2 with rfl | ⟨t, rfl⟩
          ·exact HW1.out.below
          ·exact bytes_below HW1.out.below HW1.out.below.size _ _)
         clear hw2
         go_wp2_with fail
         go_ret2
         exact ⟨rfl, HW2.out⟩
        | range =>
         have hp2 := hp
         obtain rfl : r = none := by rw [← HR.out]; simp only [integerN, hz, h105, hfr, hn, hd, hok, hn1, hn59, hp2, hm, h48, and_self, not_false_eq_true, false_and, and_false, Bool.false_eq_true, if_true]
         obtain ⟨tp, p, hv⟩ := (HL.out.below HW1.out.below).range
         refine (Tryd.strconv_ParseInt_10_at64_range_var (s.extract (i + 1) n) (Nat.le_trans hpz2 (Nat.le_trans hs (by decide))) hp2 tp p w1 hv).mono ?_
         rintro e w2 ⟨N, rfl, hN, hb2, hbl⟩
         clear hv hb2
         have HW2 : Hid (Below w.heap.size w w2) := Lib.hid (HW1.out.below.trans (hbl.mono HW1.out.below.size))
         clear hbl
         go_wp2_with fail
         go_ret2
         exact ⟨rfl, HW2.out⟩
        | _ =>
         have hp2 := hp
         obtain rfl : r = none := by rw [← HR.out]; simp only [integerN, hz, h105, hfr, hn, hd, hok, hn1, hn59, hp2, hm, h48, and_self, not_false_eq_true, false_and, and_false, Bool.false_eq_true, if_true]
         obtain ⟨tp, p, hv⟩ := (HL.out.below HW1.out.below).stx
         refine (Tryd.strconv_ParseInt_10_at64_syntax_var (s.extract (i + 1) n) (Nat.le_trans hpz2 (Nat.le_trans hs (by decide))) (hp2.trans (by kernel_rfl)) tp p w1 hv).mono ?_
         rintro e w2 ⟨N, rfl, hN, hb2, hbl⟩
         clear hv hb2
         have HW2 : Hid (Below w.heap.size w w2) := Lib.hid (HW1.out.below.trans (hbl.mono HW1.out.below.size))
         clear hbl
         go_wp2_with fail
         go_ret2
         exact ⟨rfl, HW2.out⟩
       ·obtain rfl : r = none := by rw [← HR.out]; simp [integerN, hfr, hn, hd, hn59]
        have q6 : (((s[n]'hn1).toNat : Int) == 59) = false := by rw [q5]; simpa using hn59
        have q7 : (((s[n]'hn1).toNat : Int) != 59) = true := by rw [bne, q6]; rfl
        go_wp2_with fail
        go_ret2
        exact ⟨rfl, HW1.out.below⟩
      ·obtain rfl : r = none := by rw [← HR.out]; simp [integerN, hfr, hn, hd, hn1]
       have q1 := eq_true (show ((s.size : Int) ≤ (n : Int)) from by omega)
       go_wp2_with fail
       go_ret2
       exact ⟨rfl, HW1.out.below⟩
  ·obtain rfl : r = none := by rw [← HR.out]; simp [integerN, h105]
   have y1 : (((s[i]'hz).toNat : Int) == 105) = false := by rw [hb]; simpa using h105
   have y2 : (((s[i]'hz).toNat : Int) != 105) = true := by rw [bne, y1]; rfl
   go_wp2_with fail
   go_ret2
   exact ⟨rfl, Below.refl _ _⟩
end Go.Proofs.YtfpopmojlmpopaaDoor.H

end
section
namespace Go.Proofs.YtfpopmojlmpopaaDoor.H
open Go.RowKit Go.Proofs.YtfpopmojlmpopaaDoorW.PrintWords Go.Proofs.YtfpopmojlmpopaaDoorW.PrintLast Go.Proofs.YtfpopmojlmpopaaDoorW.PrintMore
set_option linter.unusedVariables false
set_option linter.unusedSimpArgs false
theorem digits_list (s : ByteArray) (i : Nat) : (s.extract i (dEnd s i)).data.toList = (s.data.toList.drop i).takeWhile isDig := by
 rw [ByteArray.data_extract, Array.toList_extract, List.extract_eq_take_drop]
 have h : (s.data.toList.drop i).takeWhile isDig <+: s.data.toList.drop i := List.takeWhile_prefix _
 rw [List.prefix_iff_eq_take] at h
 rw [show dEnd s i - i = ((s.data.toList.drop i).takeWhile isDig).length from by unfold dEnd; omega]
 exact h.symm
theorem atoi_nonneg (s : ByteArray) (i : Nat) (v : Int) (h : Lib.atoiAll (s.extract i (dEnd s i)).data.toList = .ok v) : 0 ≤ v := by
 rw [digits_list] at h
 have ha := List.all_takeWhile (p := isDig) (l := s.data.toList.drop i)
 cases hl : (s.data.toList.drop i).takeWhile isDig with
 | nil => rw [hl] at h; simp [Lib.atoiAll] at h
 | cons c r =>
  rw [hl] at h ha
  simp only [List.all_cons, Bool.and_eq_true, isDig, decide_eq_true_eq] at ha
  have hc : ¬ c.toNat = 45 := by omega
  simp only [Lib.atoiAll, hc, if_false, or_false, not_false_eq_true, true_and, false_and] at h
  split at h
  ·cases h
  ·cases h
  ·split at h
   ·cases h
   ·injection h with h; omega
def textN (s : ByteArray) (i : Nat) : Option (Nat × Nat) :=
 if okNum (s.extract i (dEnd s i)) = true ∧ dEnd s i < s.size ∧ bt s (dEnd s i : Nat) = 58 then
  match Lib.atoiAll (s.extract i (dEnd s i)).data.toList with
  | .ok v => if dEnd s i + 1 + v.toNat ≤ s.size then some (dEnd s i + 1, dEnd s i + 1 + v.toNat) else none
  | _ => none
 else none
def outT (s : ByteArray) : Option (Nat × Nat) → ByteArray × Int
 | some (a, b) => (s.extract a b, b)
 | none => (⟨#[]⟩, -1)
set_option maxHeartbeats 8000000 in
set_option maxRecDepth 100000 in
theorem encode_text_calls (s : ByteArray) (i : Nat) (hi : i ≤ s.size) (hs : s.size ≤ 140737488355328) (w : World) (hL : Laid w) :
  Calls Tryd.prog 71 #[.string s, .int .i64 i] w fun e w' => e = .returned (.tuple #[.string (outT s (textN s i)).1, .int .i64 (outT s (textN s i)).2]) ∧ Below w.heap.size w w' := by
 obtain ⟨r, hr⟩ : ∃ r, textN s i = r := ⟨_, rfl⟩
 rw [hr]
 have HL := Lib.hid hL
 have HR := Lib.hid hr
 clear hL hr
 go_enter Tryd.func71, Tryd.ntmps71
 go_wp2_with fail
 obtain ⟨n, hn⟩ : ∃ n, dEnd s i = n := ⟨_, rfl⟩
 have hnle := dEnd_le s i (by omega)
 have hnge := dEnd_ge s i
 refine (encode_digits_calls s i (by omega) hs w).mono ?_
 rintro e w1 ⟨rfl, hw1⟩
 rw [hn] at hnle hnge
 have HW1 := Lib.hid hw1
 clear hw1
 simp only [hn]
 have hdz : (s.extract i n).size = n - i := by rw [ByteArray.size_extract]; omega
 have hnn : ∀ v, Lib.atoiAll (s.extract i n).data.toList = .ok v → 0 ≤ v := by rw [← hn]; exact atoi_nonneg s i
 obtain ⟨d, hd⟩ : ∃ d, s.extract i n = d := ⟨_, rfl⟩
 rw [hd] at hdz hnn ⊢
 obtain ⟨ok, hok⟩ : ∃ ok, okNum d = ok := ⟨_, rfl⟩
 rw [hok]
 have HNN := Lib.hid hnn
 have v1 : (i : Int) + (d.size : Int) = (n : Int) := by omega
 have hdz2 : d.size ≤ 9223372036854775806 := by omega
 have hdz3 : d.size ≤ 281474976710656 := by omega
 clear hdz hnn
 cases ok
 ·obtain rfl : r = none := by rw [← HR.out]; simp [textN, hn, hd, hok]
  go_wp2_with fail
  go_ret2
  exact ⟨rfl, HW1.out.below⟩
 ·by_cases hn1 : n < s.size
  ·have q1 := eq_false (show ¬ ((s.size : Int) ≤ (n : Int)) from by omega)
   have q2 := eq_true (show (0 : Int) ≤ (n : Int) from by omega)
   have q3 := eq_true (show (n : Int) < (s.size : Int) from by omega)
   have q4 := eq_true hn1
   have q5 : ((s[n]'hn1).toNat : Int) = bt s (n : Int) := by simpa using bt_at s (n : Int) (by simpa using hn1)
   by_cases hn58 : bt s (n : Int) = 58
   ·have q6 : (((s[n]'hn1).toNat : Int) == 58) = true := by rw [q5, hn58]; rfl
    have q7 : (((s[n]'hn1).toNat : Int) != 58) = false := by rw [bne, q6]; rfl
    go_wp2_with fail
    cases hp : Lib.atoiAll d.data.toList with
    | ok v =>
     have hv0 := HNN.out v hp
     refine (Tryd.strconv_Atoi_ok d hdz2 v hp w1).mono ?_
     rintro e w2 ⟨rfl, hw2⟩
     have HW2 : Hid (Below w.heap.size w w2) := Lib.hid (by
      rcases hw2 with rfl | ⟨t, rfl⟩
      ·exact HW1.out.below
      ·exact bytes_below HW1.out.below HW1.out.below.size _ _)
     clear hw2
     obtain ⟨m, rfl⟩ := Int.eq_ofNat_of_zero_le hv0
     by_cases hfit : n + 1 + m ≤ s.size
     ·obtain rfl : r = some (n + 1, n + 1 + m) := by rw [← HR.out]; simp only [textN, hn, hd, hok, hn1, hn58, hp, and_self, if_true, Int.toNat_natCast, hfit]
      have f1 := eq_false (show ¬ ((s.size : Int) - (n : Int) - 1 < (m : Int)) from by omega)
      have f2 := eq_true (show (0 : Int) ≤ (n : Int) + 1 from by omega)
      have f3 := eq_true (show (n : Int) + 1 ≤ (n : Int) + 1 + (m : Int) from by omega)
      have f4 := eq_true (show (n : Int) + 1 + (m : Int) ≤ (s.size : Int) from by omega)
      have f5 : ((n : Int) + 1).toNat = n + 1 := by omega
      have f6 : ((n : Int) + 1 + (m : Int)).toNat = n + 1 + m := by omega
      go_wp2_with fail
      go_ret2
      exact ⟨rfl, HW2.out⟩
     ·obtain rfl : r = none := by rw [← HR.out]; simp only [textN, hn, hd, hok, hn1, hn58, hp, and_self, if_true, Int.toNat_natCast, hfit, if_false]
      have f1 := eq_true (show ((s.size : Int) - (n : Int) - 1 < (m : Int)) from by omega)
      go_wp2_with fail
      go_ret2
      exact ⟨rfl, HW2.out⟩
    | range =>
     obtain rfl : r = none := by rw [← HR.out]; simp only [textN, hn, hd, hok, hn1, hn58, hp, and_self, if_true]
     obtain ⟨tp, p, hv⟩ := (HL.out.below HW1.out.below).range
     refine (Tryd.strconv_Atoi_range_var d hdz3 hp tp p w1 hv).mono ?_
     rintro e w2 ⟨N, rfl, hN, hb2, hbl⟩
     clear hv hb2
     have HW2 : Hid (Below w.heap.size w w2) := Lib.hid (HW1.out.below.trans (hbl.mono HW1.out.below.size))
     clear hbl
     go_wp2_with fail
     go_ret2
     exact ⟨rfl, HW2.out⟩
    | _ =>
     obtain rfl : r = none := by rw [← HR.out]; simp only [textN, hn, hd, hok, hn1, hn58, hp, and_self, if_true]
     obtain ⟨tp, p, hv⟩ := (HL.out.below HW1.out.below).stx
     refine (Tryd.strconv_Atoi_syntax_var d hdz3 (hp.trans (by kernel_rfl)) tp p w1 hv).mono ?_
     rintro e w2 ⟨N, rfl, hN, hb2, hbl⟩
     clear hv hb2
     have HW2 : Hid (Below w.heap.size w w2) := Lib.hid (HW1.out.below.trans (hbl.mono HW1.out.below.size))
     clear hbl
     go_wp2_with fail
     go_ret2
     exact ⟨rfl, HW2.out⟩
   ·obtain rfl : r = none := by rw [← HR.out]; simp [textN, hn, hd, hn58]
    have q6 : (((s[n]'hn1).toNat : Int) == 58) = false := by rw [q5]; simpa using hn58
    have q7 : (((s[n]'hn1).toNat : Int) != 58) = true := by rw [bne, q6]; rfl
    go_wp2_with fail
    go_ret2
    exact ⟨rfl, HW1.out.below⟩
  ·obtain rfl : r = none := by rw [← HR.out]; simp [textN, hn, hd, hn1]
   have q1 := eq_true (show ((s.size : Int) ≤ (n : Int)) from by omega)
   go_wp2_with fail
   go_ret2
   exact ⟨rfl, HW1.out.below⟩
end Go.Proofs.YtfpopmojlmpopaaDoor.H

end
section
namespace Go.Proofs.YtfpopmojlmpopaaDoor.G
open Go.RowKit Go.Proofs.YtfpopmojlmpopaaDoorW.PrintWords Go.Proofs.YtfpopmojlmpopaaDoorW.PrintLast Go.Proofs.YtfpopmojlmpopaaDoorW.PrintMore
attribute [local go_sem] max2_int min2_int max_two min_two max_three min_three max_four min_four
set_option linter.unusedVariables false
set_option linter.unusedSimpArgs false
mutual
def frame_lineError.l0 : Nat → List ByteArray → List ByteArray → Int → Int → Option (Int)
 | 0, _, _, _, _ => none
 | k + 1, x0, x11, x12, x13 => if x13 < x12 then (if 0 ≤ x13 then (if x13 < (x11.length : Int) then (if ((rdOf ByteArray.empty x11 x13).size : Int) > 160 then (some 6) else (frame_lineError.l0 k x0 x11 x12 (wrap64 (x13 + 1)))) else (none)) else (none)) else (frame_lineError.l1 k x0 (x0.length : Int) 0)
def frame_lineError.l1 : Nat → List ByteArray → Int → Int → Option (Int)
 | 0, _, _, _ => none
 | k + 1, x21, x22, x23 => if x23 < x22 then (if 0 ≤ x23 then (if x23 < (x21.length : Int) then (frame_lineError.l2 k (rdOf ByteArray.empty x21 x23) x21 x22 x23 ((rdOf ByteArray.empty x21 x23).size : Int) 0) else (none)) else (none)) else (some 0)
def frame_lineError.l2 : Nat → ByteArray → List ByteArray → Int → Int → Int → Int → Option (Int)
 | 0, _, _, _, _, _, _ => none
 | k + 1, x6, x21, x22, x23, x28, x29 => if x29 < x28 then (if 0 ≤ x29 then (if x29 < (x6.size : Int) then (if (bt x6 x29) < 32 then (some 2) else (if (bt x6 x29) > 126 then (some 2) else (frame_lineError.l2 k x6 x21 x22 x23 x28 (wrap64 (x29 + 1))))) else (none)) else (none)) else (frame_lineError.l1 k x21 x22 (wrap64 (x23 + 1)))
end
def frame_lineError.f (k : Nat) (l0 : List ByteArray) : Option (Int) := if (l0.length : Int) > 4096 then (some 6) else (frame_lineError.l0 k l0 l0 (l0.length : Int) 0)
theorem frame_lineError.mono_l : ∀ k, (∀ y0 y1 y2 y3, LeO (frame_lineError.l0 k y0 y1 y2 y3) (frame_lineError.l0 (k + 1) y0 y1 y2 y3)) ∧ (∀ y0 y1 y2, LeO (frame_lineError.l1 k y0 y1 y2) (frame_lineError.l1 (k + 1) y0 y1 y2)) ∧ (∀ y0 y1 y2 y3 y4 y5, LeO (frame_lineError.l2 k y0 y1 y2 y3 y4 y5) (frame_lineError.l2 (k + 1) y0 y1 y2 y3 y4 y5))
 | 0 => ⟨fun _ _ _ _ r h => by simp [frame_lineError.l0] at h, fun _ _ _ r h => by simp [frame_lineError.l1] at h, fun _ _ _ _ _ _ r h => by simp [frame_lineError.l2] at h⟩
 | k + 1 => by
  obtain ⟨ih0, ih1, ih2⟩ := frame_lineError.mono_l k
  refine ⟨?_, ?_, ?_⟩
  ·intro y0 y1 y2 y3
   unfold frame_lineError.l0
   repeat' first
   | (with_reducible exact ih0 _ _ _ _)
   | (with_reducible exact ih1 _ _ _)
   | (with_reducible exact ih2 _ _ _ _ _ _)
   | (with_reducible exact LeO.refl _)
   | (with_reducible exact LeO.none _)
   | (with_reducible refine LeO.ite ?_ ?_)
   | (with_reducible refine LeO.bind ?_ (fun _ => ?_))
   | exact ih0 _ _ _ _
   | exact ih1 _ _ _
   | exact ih2 _ _ _ _ _ _
   | exact LeO.none _
   | refine LeO.ite ?_ ?_
   | refine LeO.bind ?_ (fun _ => ?_)
  ·intro y0 y1 y2
   unfold frame_lineError.l1
   repeat' first
   | (with_reducible exact ih0 _ _ _ _)
   | (with_reducible exact ih1 _ _ _)
   | (with_reducible exact ih2 _ _ _ _ _ _)
   | (with_reducible exact LeO.refl _)
   | (with_reducible exact LeO.none _)
   | (with_reducible refine LeO.ite ?_ ?_)
   | (with_reducible refine LeO.bind ?_ (fun _ => ?_))
   | exact ih0 _ _ _ _
   | exact ih1 _ _ _
   | exact ih2 _ _ _ _ _ _
   | exact LeO.none _
   | refine LeO.ite ?_ ?_
   | refine LeO.bind ?_ (fun _ => ?_)
  ·intro y0 y1 y2 y3 y4 y5
   unfold frame_lineError.l2
   repeat' first
   | (with_reducible exact ih0 _ _ _ _)
   | (with_reducible exact ih1 _ _ _)
   | (with_reducible exact ih2 _ _ _ _ _ _)
   | (with_reducible exact LeO.refl _)
   | (with_reducible exact LeO.none _)
   | (with_reducible refine LeO.ite ?_ ?_)
   | (with_reducible refine LeO.bind ?_ (fun _ => ?_))
   | exact ih0 _ _ _ _
   | exact ih1 _ _ _
   | exact ih2 _ _ _ _ _ _
   | exact LeO.none _
   | refine LeO.ite ?_ ?_
   | refine LeO.bind ?_ (fun _ => ?_)
theorem frame_lineError.mono : ∀ a0 k, LeO (frame_lineError.f k a0) (frame_lineError.f (k + 1) a0) := by
 intro a0 k
 obtain ⟨ih0, ih1, ih2⟩ := frame_lineError.mono_l k
 unfold frame_lineError.f
 repeat' first
   | (with_reducible exact ih0 _ _ _ _)
   | (with_reducible exact ih1 _ _ _)
   | (with_reducible exact ih2 _ _ _ _ _ _)
   | (with_reducible exact LeO.refl _)
   | (with_reducible exact LeO.none _)
   | (with_reducible refine LeO.ite ?_ ?_)
   | (with_reducible refine LeO.bind ?_ (fun _ => ?_))
   | exact ih0 _ _ _ _
   | exact ih1 _ _ _
   | exact ih2 _ _ _ _ _ _
   | exact LeO.none _
   | refine LeO.ite ?_ ?_
   | refine LeO.bind ?_ (fun _ => ?_)
set_option maxHeartbeats 8000000 in
set_option maxRecDepth 100000 in
theorem frame_lineError.calls (k : Nat) (A0 : Option Addr) (c0 : Nat) (l0 : List ByteArray) (r : Int) (w : World) (hr0 : Kd.C Kd.string w A0 l0.length l0) (hc0 : l0.length ≤ c0) (h : frame_lineError.f k l0 = some r) :
  Calls Tryd.prog 43 #[.slice A0 l0.length c0] w fun e w' => e = .returned (.int .i64 r) ∧ Drawn0 w w' := by
 have HR0 := Aside0.mk hr0
 have HC0 := Aside0.mk hc0
 clear hr0 hc0
 have H : (if (l0.length : Int) > 4096 then (some 6) else (frame_lineError.l0 k l0 l0 (l0.length : Int) 0)) = some r := h
 clear h
 by_cases c2 : (l0.length : Int) > 4096
 ·rw [if_pos c2] at H
  have c2b0 : decide (4096 < (l0.length : Int)) = true := decide_eq_true c2
  have c2b1 : decide (4096 < l0.length) = true := decide_eq_true (by omega)
  clear c2
  obtain rfl := Option.some.inj H
  go_enter Tryd.func43, Tryd.ntmps43
  go_wp2
  go_ret
  exact ⟨by first | rfl | (simp; done) | (simp [*]; done), by repeat (first | exact Drawn0.refl _ | apply Drawn0.step)⟩
 ·rw [if_neg c2] at H
  have c2b0 : decide (4096 < (l0.length : Int)) = false := decide_eq_false c2
  have c2b1 : decide (4096 < l0.length) = false := decide_eq_false (by omega)
  clear c2
  have H' := Aside0.mk H
  clear H
  go_enter Tryd.func43, Tryd.ntmps43
  go_wp2
  go_loopg [13] k (fun kq v13 w' => ∃ (x13_1 : Int), v13 = .int .i64 x13_1 ∧ Aside0 (frame_lineError.l0 kq l0 l0 (l0.length : Int) x13_1 = some r) ∧ Aside0 (kq ≤ k) ∧ Drawn0 w w')
  case atStart => exact ⟨(0), (by first | rfl | (simp; done) | (simp [*]; done)), H', ⟨Nat.le_refl _⟩, by repeat (first | exact Drawn0.refl _ | apply Drawn0.step)⟩
  case round =>
   clear H'
   try clear c2
   try clear c2b0
   try clear c2b1
   try clear p2
   obtain ⟨x13_1, rfl, HA, HK1, ⟨m1, rfl⟩⟩ := hrel
   cases gk with
   | zero => exact absurd HA.out (by simp [frame_lineError.l0])
   | succ k1 =>
    have H := HA.out
    clear HA
    simp only [frame_lineError.l0] at H
    by_cases c3 : x13_1 < (l0.length : Int)
    ·rw [if_pos c3] at H
     have c3b0 : decide (x13_1 < (l0.length : Int)) = true := decide_eq_true c3
     clear c3
     by_cases c4 : 0 ≤ x13_1
     ·rw [if_pos c4] at H
      have c4b0 : decide (0 ≤ x13_1) = true := decide_eq_true c4
      clear c4
      by_cases c5 : x13_1 < (l0.length : Int)
      ·rw [if_pos c5] at H
       have c5b0 : decide (x13_1 < (l0.length : Int)) = true := decide_eq_true c5
       clear c5
       by_cases c6 : ((rdOf ByteArray.empty l0 x13_1).size : Int) > 160
       ·rw [if_pos c6] at H
        have c6b0 : decide (160 < ((rdOf ByteArray.empty l0 x13_1).size : Int)) = true := decide_eq_true c6
        have c6b1 : decide (160 < (rdOf ByteArray.empty l0 x13_1).size) = true := decide_eq_true (by omega)
        clear c6
        obtain rfl := Option.some.inj H
        have p158 : 0 ≤ (x13_1 : Int) := of_decide_eq_true (by first | (with_reducible assumption) | assumption)
        have q158 : x13_1 < (l0.length : Int) := of_decide_eq_true (by first | (with_reducible assumption) | assumption)
        obtain ⟨ad158, e158, hx158_0⟩ := Kd.at_string HR0.out x13_1 p158 q158
        cases e158
        replace p158 := eq_true p158
        replace q158 := eq_true q158
        go_wp2
        go_ret
        exact ⟨by first | rfl | (simp; done) | (simp [*]; done), by repeat (first | exact Drawn0.refl _ | apply Drawn0.step)⟩
       ·rw [if_neg c6] at H
        have c6b0 : decide (160 < ((rdOf ByteArray.empty l0 x13_1).size : Int)) = false := decide_eq_false c6
        have c6b1 : decide (160 < (rdOf ByteArray.empty l0 x13_1).size) = false := decide_eq_false (by omega)
        clear c6
        have H' := Aside0.mk H
        clear H
        have p158 : 0 ≤ (x13_1 : Int) := of_decide_eq_true (by first | (with_reducible assumption) | assumption)
        have q158 : x13_1 < (l0.length : Int) := of_decide_eq_true (by first | (with_reducible assumption) | assumption)
        obtain ⟨ad158, e158, hx158_0⟩ := Kd.at_string HR0.out x13_1 p158 q158
        cases e158
        replace p158 := eq_true p158
        replace q158 := eq_true q158
        go_wp2
        go_roundg k1
        case measure => have := HK1.out; omega
        case rel => exact ⟨(wrap64 (x13_1 + 1)), (by first | rfl | (simp; done) | (simp [*]; done)), H', ⟨by have := HK1.out; omega⟩, by repeat (first | exact Drawn0.refl _ | apply Drawn0.step)⟩
      ·rw [if_neg c5] at H
       exact absurd H (by simp)
     ·rw [if_neg c4] at H
      exact absurd H (by simp)
    ·rw [if_neg c3] at H
     have c3b0 : decide (x13_1 < (l0.length : Int)) = false := decide_eq_false c3
     clear c3
     have H' := Aside0.mk H
     clear H
     go_wp2
     go_loopg [23] k1 (fun kq v23 w' => ∃ (x23_2 : Int), v23 = .int .i64 x23_2 ∧ Aside0 (frame_lineError.l1 kq l0 (l0.length : Int) x23_2 = some r) ∧ Aside0 (kq ≤ k1) ∧ Drawn0 w w')
     case atStart => exact ⟨(0), (by first | rfl | (simp; done) | (simp [*]; done)), H', ⟨Nat.le_refl _⟩, by repeat (first | exact Drawn0.refl _ | apply Drawn0.step)⟩
     case round =>
      clear H'
      try clear p1
      try clear q1
      try clear hx1
      try clear c2
      try clear c2b0
      try clear c2b1
      try clear p2
      try clear c3
      try clear c3b0
      try clear c4
      try clear c4b0
      try clear c5
      try clear c5b0
      try clear c6
      try clear c6b0
      try clear c6b1
      try clear p6
      try clear hx158_0
      try clear p158
      try clear p2
      try clear q158
      obtain ⟨x23_2, rfl, HA, HK2, ⟨m2, rfl⟩⟩ := hrel
      cases gk with
      | zero => exact absurd HA.out (by simp [frame_lineError.l1])
      | succ k2 =>
       have H := HA.out
       clear HA
       simp only [frame_lineError.l1] at H
       by_cases c7 : x23_2 < (l0.length : Int)
       ·rw [if_pos c7] at H
        have c7b0 : decide (x23_2 < (l0.length : Int)) = true := decide_eq_true c7
        clear c7
        by_cases c8 : 0 ≤ x23_2
        ·rw [if_pos c8] at H
         have c8b0 : decide (0 ≤ x23_2) = true := decide_eq_true c8
         clear c8
         by_cases c9 : x23_2 < (l0.length : Int)
         ·rw [if_pos c9] at H
          have c9b0 : decide (x23_2 < (l0.length : Int)) = true := decide_eq_true c9
          clear c9
          have H' := Aside0.mk H
          clear H
          have p159 : 0 ≤ (x23_2 : Int) := of_decide_eq_true (by first | (with_reducible assumption) | assumption)
          have q159 : x23_2 < (l0.length : Int) := of_decide_eq_true (by first | (with_reducible assumption) | assumption)
          obtain ⟨ad159, e159, hx159_0⟩ := Kd.at_string HR0.out x23_2 p159 q159
          cases e159
          replace p159 := eq_true p159
          replace q159 := eq_true q159
          go_wp2
          go_loopg [29] k2 (fun kq v29 w' => ∃ (x29_3 : Int), v29 = .int .i64 x29_3 ∧ Aside0 (frame_lineError.l2 kq (rdOf ByteArray.empty l0 x23_2) l0 (l0.length : Int) x23_2 ((rdOf ByteArray.empty l0 x23_2).size : Int) x29_3 = some r) ∧ Aside0 (kq ≤ k2) ∧ Drawn0 w w')
          case atStart => exact ⟨(0), (by first | rfl | (simp; done) | (simp [*]; done)), H', ⟨Nat.le_refl _⟩, by repeat (first | exact Drawn0.refl _ | apply Drawn0.step)⟩
          case round =>
           clear H'
           try clear p1
           try clear q1
           try clear hx1
           try clear c2
           try clear c2b0
           try clear c2b1
           try clear p2
           try clear c3
           try clear c3b0
           try clear c4
           try clear c4b0
           try clear c5
           try clear c5b0
           try clear c6
           try clear c6b0
           try clear c6b1
           try clear p6
           try clear c7
           try clear c7b0
           try clear c8
           try clear c8b0
           try clear c9
           try clear c9b0
           try clear hx158_0
           try clear hx159_0
           try clear p1
           try clear p158
           try clear p159
           try clear p2
           try clear p6
           try clear q1
           try clear q158
           try clear q159
           obtain ⟨x29_3, rfl, HA, HK3, ⟨m3, rfl⟩⟩ := hrel
           cases gk with
           | zero => exact absurd HA.out (by simp [frame_lineError.l2])
           | succ k3 =>
            have H := HA.out
            clear HA
            simp only [frame_lineError.l2] at H
            by_cases c10 : x29_3 < ((rdOf ByteArray.empty l0 x23_2).size : Int)
            ·rw [if_pos c10] at H
             have c10b0 : decide (x29_3 < ((rdOf ByteArray.empty l0 x23_2).size : Int)) = true := decide_eq_true c10
             clear c10
             by_cases c11 : 0 ≤ x29_3
             ·rw [if_pos c11] at H
              have c11b0 : decide (0 ≤ x29_3) = true := decide_eq_true c11
              clear c11
              by_cases c12 : x29_3 < ((rdOf ByteArray.empty l0 x23_2).size : Int)
              ·rw [if_pos c12] at H
               have c12b0 : decide (x29_3 < ((rdOf ByteArray.empty l0 x23_2).size : Int)) = true := decide_eq_true c12
               clear c12
               by_cases c14 : (bt (rdOf ByteArray.empty l0 x23_2) x29_3) < 32
               ·rw [if_pos c14] at H
                have c14b0 : decide ((bt (rdOf ByteArray.empty l0 x23_2) x29_3) < 32) = true := decide_eq_true c14
                clear c14
                obtain rfl := Option.some.inj H
                have p13 : 0 ≤ (x29_3 : Int) := of_decide_eq_true (by first | (with_reducible assumption) | assumption)
                have q13 : x29_3 < ((rdOf ByteArray.empty l0 x23_2).size : Int) := of_decide_eq_true (by first | (with_reducible assumption) | assumption)
                have hx13 := bt_at (rdOf ByteArray.empty l0 x23_2) x29_3
                replace p13 := eq_true p13
                replace q13 := eq_true q13
                go_wp2
                go_ret
                exact ⟨by first | rfl | (simp; done) | (simp [*]; done), by repeat (first | exact Drawn0.refl _ | apply Drawn0.step)⟩
               ·rw [if_neg c14] at H
                have c14b0 : decide ((bt (rdOf ByteArray.empty l0 x23_2) x29_3) < 32) = false := decide_eq_false c14
                clear c14
                by_cases c16 : (bt (rdOf ByteArray.empty l0 x23_2) x29_3) > 126
                ·rw [if_pos c16] at H
                 have c16b0 : decide (126 < (bt (rdOf ByteArray.empty l0 x23_2) x29_3)) = true := decide_eq_true c16
                 clear c16
                 obtain rfl := Option.some.inj H
                 have p13 : 0 ≤ (x29_3 : Int) := of_decide_eq_true (by first | (with_reducible assumption) | assumption)
                 have q13 : x29_3 < ((rdOf ByteArray.empty l0 x23_2).size : Int) := of_decide_eq_true (by first | (with_reducible assumption) | assumption)
                 have hx13 := bt_at (rdOf ByteArray.empty l0 x23_2) x29_3
                 replace p13 := eq_true p13
                 replace q13 := eq_true q13
                 have p15 : 0 ≤ (x29_3 : Int) := of_decide_eq_true (by first | (with_reducible assumption) | assumption)
                 have q15 : x29_3 < ((rdOf ByteArray.empty l0 x23_2).size : Int) := of_decide_eq_true (by first | (with_reducible assumption) | assumption)
                 have hx15 := bt_at (rdOf ByteArray.empty l0 x23_2) x29_3
                 replace p15 := eq_true p15
                 replace q15 := eq_true q15
                 go_wp2
                 go_ret
                 exact ⟨by first | rfl | (simp; done) | (simp [*]; done), by repeat (first | exact Drawn0.refl _ | apply Drawn0.step)⟩
                ·rw [if_neg c16] at H
                 have c16b0 : decide (126 < (bt (rdOf ByteArray.empty l0 x23_2) x29_3)) = false := decide_eq_false c16
                 clear c16
                 have H' := Aside0.mk H
                 clear H
                 have p13 : 0 ≤ (x29_3 : Int) := of_decide_eq_true (by first | (with_reducible assumption) | assumption)
                 have q13 : x29_3 < ((rdOf ByteArray.empty l0 x23_2).size : Int) := of_decide_eq_true (by first | (with_reducible assumption) | assumption)
                 have hx13 := bt_at (rdOf ByteArray.empty l0 x23_2) x29_3
                 replace p13 := eq_true p13
                 replace q13 := eq_true q13
                 have p15 : 0 ≤ (x29_3 : Int) := of_decide_eq_true (by first | (with_reducible assumption) | assumption)
                 have q15 : x29_3 < ((rdOf ByteArray.empty l0 x23_2).size : Int) := of_decide_eq_true (by first | (with_reducible assumption) | assumption)
                 have hx15 := bt_at (rdOf ByteArray.empty l0 x23_2) x29_3
                 replace p15 := eq_true p15
                 replace q15 := eq_true q15
                 go_wp2
                 go_roundg k3
                 case measure => have := HK1.out; have := HK2.out; have := HK3.out; omega
                 case rel => exact ⟨(wrap64 (x29_3 + 1)), (by first | rfl | (simp; done) | (simp [*]; done)), H', ⟨by have := HK1.out; have := HK2.out; have := HK3.out; omega⟩, by repeat (first | exact Drawn0.refl _ | apply Drawn0.step)⟩
              ·rw [if_neg c12] at H
               exact absurd H (by simp)
             ·rw [if_neg c11] at H
              exact absurd H (by simp)
            ·rw [if_neg c10] at H
             have c10b0 : decide (x29_3 < ((rdOf ByteArray.empty l0 x23_2).size : Int)) = false := decide_eq_false c10
             clear c10
             have H' := Aside0.mk H
             clear H
             go_wp2
             go_roundg k3
             case measure => have := HK1.out; have := HK2.out; have := HK3.out; omega
             case rel => exact ⟨(wrap64 (x23_2 + 1)), (by first | rfl | (simp; done) | (simp [*]; done)), H', ⟨by have := HK1.out; have := HK2.out; have := HK3.out; omega⟩, by repeat (first | exact Drawn0.refl _ | apply Drawn0.step)⟩
         ·rw [if_neg c9] at H
          exact absurd H (by simp)
        ·rw [if_neg c8] at H
         exact absurd H (by simp)
       ·rw [if_neg c7] at H
        have c7b0 : decide (x23_2 < (l0.length : Int)) = false := decide_eq_false c7
        clear c7
        obtain rfl := Option.some.inj H
        go_wp2
        go_ret
        exact ⟨by first | rfl | (simp; done) | (simp [*]; done), by repeat (first | exact Drawn0.refl _ | apply Drawn0.step)⟩
mutual
def frame_possible.l0 : Nat → List (S52) → List (S52) → Int → Int → Option (Bool)
 | 0, _, _, _, _ => none
 | k + 1, x0, x8, x9, x10 => if x10 < x9 then (if 0 ≤ x10 then (if x10 < (x8.length : Int) then (if ((rd_T52 x8 x10).f0) < 0 then (frame_possible.j1 k x0 x10 x8 x9 x10 true ((rd_T52 x8 x10).f0) ((rd_T52 x8 x10).f1) ((rd_T52 x8 x10).f2)) else (if ((rd_T52 x8 x10).f1) < 0 then (frame_possible.j1 k x0 x10 x8 x9 x10 true ((rd_T52 x8 x10).f0) ((rd_T52 x8 x10).f1) ((rd_T52 x8 x10).f2)) else (if ((rd_T52 x8 x10).f1) > 4096 then (frame_possible.j1 k x0 x10 x8 x9 x10 true ((rd_T52 x8 x10).f0) ((rd_T52 x8 x10).f1) ((rd_T52 x8 x10).f2)) else (if ((rd_T52 x8 x10).f1) = 0 then (if (((rd_T52 x8 x10).f2).length : Int) = 0 then (frame_possible.j1 k x0 x10 x8 x9 x10 true ((rd_T52 x8 x10).f0) ((rd_T52 x8 x10).f1) ((rd_T52 x8 x10).f2)) else ((frame_lineError.f k ((rd_T52 x8 x10).f2)).bind fun t162 => (frame_possible.j1 k x0 x10 x8 x9 x10 (t162 != 0) ((rd_T52 x8 x10).f0) ((rd_T52 x8 x10).f1) ((rd_T52 x8 x10).f2)))) else ((frame_lineError.f k ((rd_T52 x8 x10).f2)).bind fun t163 => (frame_possible.j1 k x0 x10 x8 x9 x10 (t163 != 0) ((rd_T52 x8 x10).f0) ((rd_T52 x8 x10).f1) ((rd_T52 x8 x10).f2))))))) else (none)) else (none)) else (some true)
def frame_possible.j1 : Nat → List (S52) → Int → List (S52) → Int → Int → Bool → Int → Int → List ByteArray → Option (Bool)
 | 0, _, _, _, _, _, _, _, _, _ => none
 | k + 1, x0, x3, x8, x9, x10, x44, x162000, x162001, x162002 => if x44 = true then (some false) else (if x3 > 0 then (if 0 ≤ (wrap64 (x3 - 1)) then (if (wrap64 (x3 - 1)) < (x0.length : Int) then (if (wrap64 (x162000 - ((rd_T52 x0 (wrap64 (x3 - 1))).f1))) ≤ ((rd_T52 x0 (wrap64 (x3 - 1))).f0) then (some false) else (frame_possible.l0 k x0 x8 x9 (wrap64 (x10 + 1)))) else (none)) else (none)) else (frame_possible.l0 k x0 x8 x9 (wrap64 (x10 + 1))))
end
def frame_possible.f (k : Nat) (l0 : List (S52)) : Option (Bool) := if (l0.length : Int) > 4096 then (some false) else (frame_possible.l0 k l0 l0 (l0.length : Int) 0)
theorem frame_possible.mono_l : ∀ k, (∀ y0 y1 y2 y3, LeO (frame_possible.l0 k y0 y1 y2 y3) (frame_possible.l0 (k + 1) y0 y1 y2 y3)) ∧ (∀ y0 y1 y2 y3 y4 y5 y6 y7 y8, LeO (frame_possible.j1 k y0 y1 y2 y3 y4 y5 y6 y7 y8) (frame_possible.j1 (k + 1) y0 y1 y2 y3 y4 y5 y6 y7 y8))
 | 0 => ⟨fun _ _ _ _ r h => by simp [frame_possible.l0] at h, fun _ _ _ _ _ _ _ _ _ r h => by simp [frame_possible.j1] at h⟩
 | k + 1 => by
  obtain ⟨ih0, ih1⟩ := frame_possible.mono_l k
  refine ⟨?_, ?_⟩
  ·intro y0 y1 y2 y3
   unfold frame_possible.l0
   repeat' first
   | (with_reducible exact ih0 _ _ _ _)
   | (with_reducible exact ih1 _ _ _ _ _ _ _ _ _)
   | (with_reducible exact frame_lineError.mono _ _)
   | (with_reducible exact LeO.refl _)
   | (with_reducible exact LeO.none _)
   | (with_reducible refine LeO.ite ?_ ?_)
   | (with_reducible refine LeO.bind ?_ (fun _ => ?_))
   | exact ih0 _ _ _ _
   | exact ih1 _ _ _ _ _ _ _ _ _
   | exact frame_lineError.mono _ _
   | exact LeO.none _
   | refine LeO.ite ?_ ?_
   | refine LeO.bind ?_ (fun _ => ?_)
  ·intro y0 y1 y2 y3 y4 y5 y6 y7 y8
   unfold frame_possible.j1
   repeat' first
   | (with_reducible exact ih0 _ _ _ _)
   | (with_reducible exact ih1 _ _ _ _ _ _ _ _ _)
   | (with_reducible exact frame_lineError.mono _ _)
   | (with_reducible exact LeO.refl _)
   | (with_reducible exact LeO.none _)
   | (with_reducible refine LeO.ite ?_ ?_)
   | (with_reducible refine LeO.bind ?_ (fun _ => ?_))
   | exact ih0 _ _ _ _
   | exact ih1 _ _ _ _ _ _ _ _ _
   | exact frame_lineError.mono _ _
   | exact LeO.none _
   | refine LeO.ite ?_ ?_
   | refine LeO.bind ?_ (fun _ => ?_)
theorem frame_possible.mono : ∀ a0 k, LeO (frame_possible.f k a0) (frame_possible.f (k + 1) a0) := by
 intro a0 k
 obtain ⟨ih0, ih1⟩ := frame_possible.mono_l k
 unfold frame_possible.f
 repeat' first
   | (with_reducible exact ih0 _ _ _ _)
   | (with_reducible exact ih1 _ _ _ _ _ _ _ _ _)
   | (with_reducible exact frame_lineError.mono _ _)
   | (with_reducible exact LeO.refl _)
   | (with_reducible exact LeO.none _)
   | (with_reducible refine LeO.ite ?_ ?_)
   | (with_reducible refine LeO.bind ?_ (fun _ => ?_))
   | exact ih0 _ _ _ _
   | exact ih1 _ _ _ _ _ _ _ _ _
   | exact frame_lineError.mono _ _
   | exact LeO.none _
   | refine LeO.ite ?_ ?_
   | refine LeO.bind ?_ (fun _ => ?_)
set_option maxHeartbeats 8000000 in
set_option maxRecDepth 100000 in
theorem frame_possible.calls (k : Nat) (A0 : Option Addr) (c0 : Nat) (l0 : List (S52)) (r : Bool) (w : World) (hr0 : Kd.C k52 w A0 l0.length l0) (hc0 : l0.length ≤ c0) (h : frame_possible.f k l0 = some r) :
  Calls Tryd.prog 44 #[.slice A0 l0.length c0] w fun e w' => e = .returned (.bool r) ∧ Below w.heap.size w w' := by
 have hu52 := Tryd.underlying52
 have HR0 := Aside0.mk hr0
 have HC0 := Aside0.mk hc0
 clear hr0 hc0
 have HB := Aside0.mk (Below.refl w.heap.size w)
 have H : (if (l0.length : Int) > 4096 then (some false) else (frame_possible.l0 k l0 l0 (l0.length : Int) 0)) = some r := h
 clear h
 by_cases c2 : (l0.length : Int) > 4096
 ·rw [if_pos c2] at H
  have c2b0 : decide (4096 < (l0.length : Int)) = true := decide_eq_true c2
  have c2b1 : decide (4096 < l0.length) = true := decide_eq_true (by omega)
  clear c2
  obtain rfl := Option.some.inj H
  go_enter Tryd.func44, Tryd.ntmps44
  go_wp2
  repeat (go_quiet (fail); try go_wp2)
  go_ret
  exact ⟨by first | rfl | (simp [errW_none, errW_some] <;> rfl) | (simp [*, errW_none, errW_some] <;> rfl), by repeat (first | (with_reducible first | exact HB.out | apply below_alloc | apply pw_below_drewN | apply below_drew1) | exact HB.out)⟩
 ·rw [if_neg c2] at H
  have c2b0 : decide (4096 < (l0.length : Int)) = false := decide_eq_false c2
  have c2b1 : decide (4096 < l0.length) = false := decide_eq_false (by omega)
  clear c2
  have H' := Aside0.mk H
  clear H
  go_enter Tryd.func44, Tryd.ntmps44
  go_wp2
  repeat (go_quiet (fail); try go_wp2)
  go_loopg [10] k (fun kq v10 w' => ∃ (x10_1 : Int), v10 = .int .i64 x10_1 ∧ Aside0 (frame_possible.l0 kq l0 l0 (l0.length : Int) x10_1 = some r) ∧ Aside0 (kq ≤ k) ∧ Aside0 (Below w.heap.size w w'))
  case atStart => exact ⟨(0), (by first | rfl | (simp; done) | (simp [*]; done)), H', ⟨Nat.le_refl _⟩, ⟨by repeat (first | (with_reducible first | exact HB.out | apply below_alloc | apply pw_below_drewN | apply below_drew1) | exact HB.out)⟩⟩
  case round =>
   clear H'
   try clear c2
   try clear c2b0
   try clear c2b1
   try clear p2
   obtain ⟨x10_1, rfl, HA, HK1, HB⟩ := hrel
   cases gk with
   | zero => exact absurd HA.out (by simp [frame_possible.l0])
   | succ k1 =>
    have H := HA.out
    clear HA
    simp only [frame_possible.l0] at H
    by_cases c3 : x10_1 < (l0.length : Int)
    ·rw [if_pos c3] at H
     have c3b0 : decide (x10_1 < (l0.length : Int)) = true := decide_eq_true c3
     clear c3
     by_cases c4 : 0 ≤ x10_1
     ·rw [if_pos c4] at H
      have c4b0 : decide (0 ≤ x10_1) = true := decide_eq_true c4
      clear c4
      by_cases c5 : x10_1 < (l0.length : Int)
      ·rw [if_pos c5] at H
       have c5b0 : decide (x10_1 < (l0.length : Int)) = true := decide_eq_true c5
       clear c5
       have HC6 := Aside0.mk H
       clear H
       have p160 : 0 ≤ (x10_1 : Int) := of_decide_eq_true (by first | (with_reducible assumption) | assumption)
       have q160 : x10_1 < (l0.length : Int) := of_decide_eq_true (by first | (with_reducible assumption) | assumption)
       obtain ⟨ad160, A160_2, c160_2, e160, hx160_0, hx160_1, hx160_2, hl160_2, hi160_2⟩ := at_T52 HR0.out x10_1 p160 q160
       cases e160
       replace hx160_0 := (HB.out.cell (World.block_lt_of_cell? w _ hx160_0)).trans hx160_0
       replace hx160_1 := (HB.out.cell (World.block_lt_of_cell? w _ hx160_1)).trans hx160_1
       replace hx160_2 := (HB.out.cell (World.block_lt_of_cell? w _ hx160_2)).trans hx160_2
       have HR160_2 := Aside0.mk hi160_2
       have HC160_2 := Aside0.mk hl160_2
       clear hi160_2 hl160_2
       replace p160 := eq_true p160
       replace q160 := eq_true q160
       go_upto_region 6 with (first | ((with_reducible refine gate_dst (N := 4) rfl ?_); (try (refine gate_guard (by rfl) ?_; dsimp only)); refine box_event ?hg (N := 4) ?hd (cs := #[.int .i64 0, .int .i64 0, .slice none 0 0]) (t := 52) ?hr ?_; (case hd => rfl); (case hg => rfl); (case hr => first | (go_simp; done) | (go_simp; rfl)); intro gb161 hg w7 hbox hb; have n0_ := Aside0.mk (below_step (by repeat (first | (with_reducible first | exact HB.out | apply below_alloc | apply pw_below_drewN | apply below_drew1) | exact HB.out)) hb); have n1_ := Aside0.mk (hbox); have n2_ := Aside0.mk ((by rw [hg]; exact (below_size (by repeat (first | (with_reducible first | exact HB.out | apply below_alloc | apply pw_below_drewN | apply below_drew1) | exact HB.out))) : w.heap.size ≤ gb161)); have n3_ := Aside0.mk ((by rw [hg]; exact (below_size (by repeat (first | (with_reducible first | exact HB.out | apply below_alloc | apply pw_below_drewN | apply below_drew1) | exact HB.out))) : w.heap.size ≤ gb161)); clear HB; have HB := n0_; have BK161 := n1_; have GW161 := n2_; have GE161 := n3_; clear n0_ n1_ n2_ n3_; clear hb hbox hg; have hcz8_0 : w7.cell? ⟨gb161, 0, none⟩ = some (.int .i64 0) := (blk_cell BK161.out 0).trans rfl; have hcz8_1 : w7.cell? ⟨gb161, 1, none⟩ = some (.int .i64 0) := (blk_cell BK161.out 1).trans rfl; have hcz8_2 : w7.cell? ⟨gb161, 2, none⟩ = some (.slice none 0 0) := (blk_cell BK161.out 2).trans rfl; have hfz8_0 := blk_frozen BK161.out 0; have hfz8_1 := blk_frozen BK161.out 1; have hfz8_2 := blk_frozen BK161.out 2))
       repeat (go_quiet (first | ((with_reducible refine gate_dst (N := 4) rfl ?_); (try (refine gate_guard (by rfl) ?_; dsimp only)); refine box_event ?hg (N := 4) ?hd (cs := #[.int .i64 0, .int .i64 0, .slice none 0 0]) (t := 52) ?hr ?_; (case hd => rfl); (case hg => rfl); (case hr => first | (go_simp; done) | (go_simp; rfl)); intro gb161 hg w7 hbox hb; have n0_ := Aside0.mk (below_step (by repeat (first | (with_reducible first | exact HB.out | apply below_alloc | apply pw_below_drewN | apply below_drew1) | exact HB.out)) hb); have n1_ := Aside0.mk (hbox); have n2_ := Aside0.mk ((by rw [hg]; exact (below_size (by repeat (first | (with_reducible first | exact HB.out | apply below_alloc | apply pw_below_drewN | apply below_drew1) | exact HB.out))) : w.heap.size ≤ gb161)); have n3_ := Aside0.mk ((by rw [hg]; exact (below_size (by repeat (first | (with_reducible first | exact HB.out | apply below_alloc | apply pw_below_drewN | apply below_drew1) | exact HB.out))) : w.heap.size ≤ gb161)); clear HB; have HB := n0_; have BK161 := n1_; have GW161 := n2_; have GE161 := n3_; clear n0_ n1_ n2_ n3_; clear hb hbox hg; have hcz8_0 : w7.cell? ⟨gb161, 0, none⟩ = some (.int .i64 0) := (blk_cell BK161.out 0).trans rfl; have hcz8_1 : w7.cell? ⟨gb161, 1, none⟩ = some (.int .i64 0) := (blk_cell BK161.out 1).trans rfl; have hcz8_2 : w7.cell? ⟨gb161, 2, none⟩ = some (.slice none 0 0) := (blk_cell BK161.out 2).trans rfl; have hfz8_0 := blk_frozen BK161.out 0; have hfz8_1 := blk_frozen BK161.out 1; have hfz8_2 := blk_frozen BK161.out 2)); go_upto_region 6 with (first | ((with_reducible refine gate_dst (N := 4) rfl ?_); (try (refine gate_guard (by rfl) ?_; dsimp only)); refine box_event ?hg (N := 4) ?hd (cs := #[.int .i64 0, .int .i64 0, .slice none 0 0]) (t := 52) ?hr ?_; (case hd => rfl); (case hg => rfl); (case hr => first | (go_simp; done) | (go_simp; rfl)); intro gb161 hg w7 hbox hb; have n0_ := Aside0.mk (below_step (by repeat (first | (with_reducible first | exact HB.out | apply below_alloc | apply pw_below_drewN | apply below_drew1) | exact HB.out)) hb); have n1_ := Aside0.mk (hbox); have n2_ := Aside0.mk ((by rw [hg]; exact (below_size (by repeat (first | (with_reducible first | exact HB.out | apply below_alloc | apply pw_below_drewN | apply below_drew1) | exact HB.out))) : w.heap.size ≤ gb161)); have n3_ := Aside0.mk ((by rw [hg]; exact (below_size (by repeat (first | (with_reducible first | exact HB.out | apply below_alloc | apply pw_below_drewN | apply below_drew1) | exact HB.out))) : w.heap.size ≤ gb161)); clear HB; have HB := n0_; have BK161 := n1_; have GW161 := n2_; have GE161 := n3_; clear n0_ n1_ n2_ n3_; clear hb hbox hg; have hcz8_0 : w7.cell? ⟨gb161, 0, none⟩ = some (.int .i64 0) := (blk_cell BK161.out 0).trans rfl; have hcz8_1 : w7.cell? ⟨gb161, 1, none⟩ = some (.int .i64 0) := (blk_cell BK161.out 1).trans rfl; have hcz8_2 : w7.cell? ⟨gb161, 2, none⟩ = some (.slice none 0 0) := (blk_cell BK161.out 2).trans rfl; have hfz8_0 := blk_frozen BK161.out 0; have hfz8_1 := blk_frozen BK161.out 1; have hfz8_2 := blk_frozen BK161.out 2)))
       (try simp only [Act.put, List.setIfInBounds_toArray, List.set_cons_zero, List.set_cons_succ])
       go_cut [44] (fun v44 wc => ∃ (kq : Nat) (x44_5 : Bool), v44 = .bool x44_5 ∧ Aside0 (frame_possible.j1 kq l0 x10_1 l0 (l0.length : Int) x10_1 x44_5 ((rd_T52 l0 x10_1).f0) ((rd_T52 l0 x10_1).f1) ((rd_T52 l0 x10_1).f2) = some r) ∧ Aside0 (kq ≤ k1) ∧ Aside0 (wc.heap[gb161]? = some (.cells #[.int .i64 ((rd_T52 l0 x10_1).f0), .int .i64 ((rd_T52 l0 x10_1).f1), (.slice A160_2 ((rd_T52 l0 x10_1).f2).length c160_2)] 52 (0, 0))) ∧ Aside0 (Below w.heap.size w wc))
       case first =>
        have H := HC6.out
        clear HC6
        by_cases c9 : ((rd_T52 l0 x10_1).f0) < 0
        ·rw [if_pos c9] at H
         have c9b0 : decide (((rd_T52 l0 x10_1).f0) < 0) = true := decide_eq_true c9
         clear c9
         (first | rw [c9b0] | (simp only [i64_w, i32_w]; rw [c9b0]) | skip)
         have H' := Aside0.mk H
         clear H
         have hcz10_0 : w7.cell? ⟨gb161, 0, none⟩ = some (.int .i64 0) := (blk_cell BK161.out 0).trans rfl
         have hcz10_1 : w7.cell? ⟨gb161, 1, none⟩ = some (.int .i64 0) := (blk_cell BK161.out 1).trans rfl
         have hcz10_2 : w7.cell? ⟨gb161, 2, none⟩ = some (.slice none 0 0) := (blk_cell BK161.out 2).trans rfl
         have hfz10_0 := blk_frozen BK161.out 0
         have hfz10_1 := blk_frozen BK161.out 1
         have hfz10_2 := blk_frozen BK161.out 2
         go_wp2
         repeat (go_quiet (fail); try go_wp2)
         go_meet
         case rel => exact ⟨_, (true), (by first | rfl | (simp; done) | (simp [*]; done)), H', ⟨by have := HK1.out; first | omega | exact Nat.le_refl _⟩, ⟨by (with_reducible repeat (first | refine blk_drewN ?_ _ | refine blk_drew ?_ | refine blk_alloc ?_ _)); refine blk_put (cs := #[.int .i64 ((rd_T52 l0 x10_1).f0), .int .i64 ((rd_T52 l0 x10_1).f1), .slice none 0 0]) ?_ 2 _ rfl; (with_reducible repeat (first | refine blk_drewN ?_ _ | refine blk_drew ?_ | refine blk_alloc ?_ _)); refine blk_put (cs := #[.int .i64 ((rd_T52 l0 x10_1).f0), .int .i64 0, .slice none 0 0]) ?_ 1 _ rfl; (with_reducible repeat (first | refine blk_drewN ?_ _ | refine blk_drew ?_ | refine blk_alloc ?_ _)); refine blk_put (cs := #[.int .i64 0, .int .i64 0, .slice none 0 0]) ?_ 0 _ rfl; (with_reducible repeat (first | refine blk_drewN ?_ _ | refine blk_drew ?_ | refine blk_alloc ?_ _)); exact BK161.out⟩, ⟨by repeat (first | (with_reducible first | exact HB.out | apply below_alloc | apply pw_below_drewN | apply below_drew1 | refine below_set ?_ GE161.out) | exact HB.out)⟩⟩
        ·rw [if_neg c9] at H
         have c9b0 : decide (((rd_T52 l0 x10_1).f0) < 0) = false := decide_eq_false c9
         clear c9
         (first | rw [c9b0] | (simp only [i64_w, i32_w]; rw [c9b0]) | skip)
         by_cases c11 : ((rd_T52 l0 x10_1).f1) < 0
         ·rw [if_pos c11] at H
          have c11b0 : decide (((rd_T52 l0 x10_1).f1) < 0) = true := decide_eq_true c11
          clear c11
          have H' := Aside0.mk H
          clear H
          have hcz12_0 : w7.cell? ⟨gb161, 0, none⟩ = some (.int .i64 0) := (blk_cell BK161.out 0).trans rfl
          have hcz12_1 : w7.cell? ⟨gb161, 1, none⟩ = some (.int .i64 0) := (blk_cell BK161.out 1).trans rfl
          have hcz12_2 : w7.cell? ⟨gb161, 2, none⟩ = some (.slice none 0 0) := (blk_cell BK161.out 2).trans rfl
          have hfz12_0 := blk_frozen BK161.out 0
          have hfz12_1 := blk_frozen BK161.out 1
          have hfz12_2 := blk_frozen BK161.out 2
          go_wp2
          repeat (go_quiet (fail); try go_wp2)
          go_meet
          case rel => exact ⟨_, (true), (by first | rfl | (simp; done) | (simp [*]; done)), H', ⟨by have := HK1.out; first | omega | exact Nat.le_refl _⟩, ⟨by (with_reducible repeat (first | refine blk_drewN ?_ _ | refine blk_drew ?_ | refine blk_alloc ?_ _)); refine blk_put (cs := #[.int .i64 ((rd_T52 l0 x10_1).f0), .int .i64 ((rd_T52 l0 x10_1).f1), .slice none 0 0]) ?_ 2 _ rfl; (with_reducible repeat (first | refine blk_drewN ?_ _ | refine blk_drew ?_ | refine blk_alloc ?_ _)); refine blk_put (cs := #[.int .i64 ((rd_T52 l0 x10_1).f0), .int .i64 0, .slice none 0 0]) ?_ 1 _ rfl; (with_reducible repeat (first | refine blk_drewN ?_ _ | refine blk_drew ?_ | refine blk_alloc ?_ _)); refine blk_put (cs := #[.int .i64 0, .int .i64 0, .slice none 0 0]) ?_ 0 _ rfl; (with_reducible repeat (first | refine blk_drewN ?_ _ | refine blk_drew ?_ | refine blk_alloc ?_ _)); exact BK161.out⟩, ⟨by repeat (first | (with_reducible first | exact HB.out | apply below_alloc | apply pw_below_drewN | apply below_drew1 | refine below_set ?_ GE161.out) | exact HB.out)⟩⟩
         ·rw [if_neg c11] at H
          have c11b0 : decide (((rd_T52 l0 x10_1).f1) < 0) = false := decide_eq_false c11
          clear c11
          by_cases c13 : ((rd_T52 l0 x10_1).f1) > 4096
          ·rw [if_pos c13] at H
           have c13b0 : decide (4096 < ((rd_T52 l0 x10_1).f1)) = true := decide_eq_true c13
           clear c13
           have H' := Aside0.mk H
           clear H
           have hcz14_0 : w7.cell? ⟨gb161, 0, none⟩ = some (.int .i64 0) := (blk_cell BK161.out 0).trans rfl
           have hcz14_1 : w7.cell? ⟨gb161, 1, none⟩ = some (.int .i64 0) := (blk_cell BK161.out 1).trans rfl
           have hcz14_2 : w7.cell? ⟨gb161, 2, none⟩ = some (.slice none 0 0) := (blk_cell BK161.out 2).trans rfl
           have hfz14_0 := blk_frozen BK161.out 0
           have hfz14_1 := blk_frozen BK161.out 1
           have hfz14_2 := blk_frozen BK161.out 2
           go_wp2
           repeat (go_quiet (fail); try go_wp2)
           go_meet
           case rel => exact ⟨_, (true), (by first | rfl | (simp; done) | (simp [*]; done)), H', ⟨by have := HK1.out; first | omega | exact Nat.le_refl _⟩, ⟨by (with_reducible repeat (first | refine blk_drewN ?_ _ | refine blk_drew ?_ | refine blk_alloc ?_ _)); refine blk_put (cs := #[.int .i64 ((rd_T52 l0 x10_1).f0), .int .i64 ((rd_T52 l0 x10_1).f1), .slice none 0 0]) ?_ 2 _ rfl; (with_reducible repeat (first | refine blk_drewN ?_ _ | refine blk_drew ?_ | refine blk_alloc ?_ _)); refine blk_put (cs := #[.int .i64 ((rd_T52 l0 x10_1).f0), .int .i64 0, .slice none 0 0]) ?_ 1 _ rfl; (with_reducible repeat (first | refine blk_drewN ?_ _ | refine blk_drew ?_ | refine blk_alloc ?_ _)); refine blk_put (cs := #[.int .i64 0, .int .i64 0, .slice none 0 0]) ?_ 0 _ rfl; (with_reducible repeat (first | refine blk_drewN ?_ _ | refine blk_drew ?_ | refine blk_alloc ?_ _)); exact BK161.out⟩, ⟨by repeat (first | (with_reducible first | exact HB.out | apply below_alloc | apply pw_below_drewN | apply below_drew1 | refine below_set ?_ GE161.out) | exact HB.out)⟩⟩
          ·rw [if_neg c13] at H
           have c13b0 : decide (4096 < ((rd_T52 l0 x10_1).f1)) = false := decide_eq_false c13
           clear c13
           by_cases c15 : ((rd_T52 l0 x10_1).f1) = 0
           ·rw [if_pos c15] at H
            have c15b0 : (((rd_T52 l0 x10_1).f1) == 0) = true := beq_iff_eq.mpr c15
            have c15b1 : (((rd_T52 l0 x10_1).f1) != 0) = false := bne_eq_false_iff_eq.mpr c15
            clear c15
            by_cases c16 : (((rd_T52 l0 x10_1).f2).length : Int) = 0
            ·rw [if_pos c16] at H
             have c16b0 : ((((rd_T52 l0 x10_1).f2).length : Int) == 0) = true := beq_iff_eq.mpr c16
             have c16b1 : ((((rd_T52 l0 x10_1).f2).length : Int) != 0) = false := bne_eq_false_iff_eq.mpr c16
             clear c16
             have H' := Aside0.mk H
             clear H
             have hcz17_0 : w7.cell? ⟨gb161, 0, none⟩ = some (.int .i64 0) := (blk_cell BK161.out 0).trans rfl
             have hcz17_1 : w7.cell? ⟨gb161, 1, none⟩ = some (.int .i64 0) := (blk_cell BK161.out 1).trans rfl
             have hcz17_2 : w7.cell? ⟨gb161, 2, none⟩ = some (.slice none 0 0) := (blk_cell BK161.out 2).trans rfl
             have hfz17_0 := blk_frozen BK161.out 0
             have hfz17_1 := blk_frozen BK161.out 1
             have hfz17_2 := blk_frozen BK161.out 2
             go_wp2
             repeat (go_quiet (fail); try go_wp2)
             go_meet
             case rel => exact ⟨_, (true), (by first | rfl | (simp; done) | (simp [*]; done)), H', ⟨by have := HK1.out; first | omega | exact Nat.le_refl _⟩, ⟨by (with_reducible repeat (first | refine blk_drewN ?_ _ | refine blk_drew ?_ | refine blk_alloc ?_ _)); refine blk_put (cs := #[.int .i64 ((rd_T52 l0 x10_1).f0), .int .i64 ((rd_T52 l0 x10_1).f1), .slice none 0 0]) ?_ 2 _ rfl; (with_reducible repeat (first | refine blk_drewN ?_ _ | refine blk_drew ?_ | refine blk_alloc ?_ _)); refine blk_put (cs := #[.int .i64 ((rd_T52 l0 x10_1).f0), .int .i64 0, .slice none 0 0]) ?_ 1 _ rfl; (with_reducible repeat (first | refine blk_drewN ?_ _ | refine blk_drew ?_ | refine blk_alloc ?_ _)); refine blk_put (cs := #[.int .i64 0, .int .i64 0, .slice none 0 0]) ?_ 0 _ rfl; (with_reducible repeat (first | refine blk_drewN ?_ _ | refine blk_drew ?_ | refine blk_alloc ?_ _)); exact BK161.out⟩, ⟨by repeat (first | (with_reducible first | exact HB.out | apply below_alloc | apply pw_below_drewN | apply below_drew1 | refine below_set ?_ GE161.out) | exact HB.out)⟩⟩
            ·rw [if_neg c16] at H
             have c16b0 : ((((rd_T52 l0 x10_1).f2).length : Int) == 0) = false := beq_eq_false_iff_ne.mpr c16
             have c16b1 : ((((rd_T52 l0 x10_1).f2).length : Int) != 0) = true := bne_iff_ne.mpr c16
             have c16b2 : ¬ (((rd_T52 l0 x10_1).f2) = []) := fun h_ => c16 (by rw [h_]; rfl)
             replace H := Option.bind_eq_some_iff.mp H
             obtain ⟨t162, A180, H⟩ := H
             replace H : (frame_possible.j1 k1 l0 x10_1 l0 (l0.length : Int) x10_1 (t162 != 0) ((rd_T52 l0 x10_1).f0) ((rd_T52 l0 x10_1).f1) ((rd_T52 l0 x10_1).f2)) = some r := H
             have A18 := Aside0.mk A180
             clear A180
             have H' := Aside0.mk H
             clear H
             have hcz19_0 : w7.cell? ⟨gb161, 0, none⟩ = some (.int .i64 0) := (blk_cell BK161.out 0).trans rfl
             have hcz19_1 : w7.cell? ⟨gb161, 1, none⟩ = some (.int .i64 0) := (blk_cell BK161.out 1).trans rfl
             have hcz19_2 : w7.cell? ⟨gb161, 2, none⟩ = some (.slice none 0 0) := (blk_cell BK161.out 2).trans rfl
             have hfz19_0 := blk_frozen BK161.out 0
             have hfz19_1 := blk_frozen BK161.out 1
             have hfz19_2 := blk_frozen BK161.out 2
             go_wp2_with (first | (go_at_call 43; (with_reducible refine (frame_lineError.calls k1 _ _ ((rd_T52 l0 x10_1).f2) t162 _ ?side1 ?side2 A18.out).mono ?_); (case side1 => exact Kd.C_below HR160_2.out (by repeat (first | (with_reducible first | exact HB.out | apply below_alloc | apply pw_below_drewN | apply below_drew1 | refine below_set ?_ GE161.out) | exact HB.out))); (case side2 => exact HC160_2.out); rintro e w' ⟨rfl, ⟨nd, rfl⟩⟩; (try first | exact ⟨rfl, _, World.drewN_drewN _ _ _⟩ | exact ⟨rfl, _, Eq.trans (World.drewN_drewN _ _ _) (congrArg (World.drewN _) (Nat.add_assoc _ _ _))⟩)))
             repeat (go_quiet (first | (go_at_call 43; (with_reducible refine (frame_lineError.calls k1 _ _ ((rd_T52 l0 x10_1).f2) t162 _ ?side1 ?side2 A18.out).mono ?_); (case side1 => exact Kd.C_below HR160_2.out (by repeat (first | (with_reducible first | exact HB.out | apply below_alloc | apply pw_below_drewN | apply below_drew1 | refine below_set ?_ GE161.out) | exact HB.out))); (case side2 => exact HC160_2.out); rintro e w' ⟨rfl, ⟨nd, rfl⟩⟩; (try first | exact ⟨rfl, _, World.drewN_drewN _ _ _⟩ | exact ⟨rfl, _, Eq.trans (World.drewN_drewN _ _ _) (congrArg (World.drewN _) (Nat.add_assoc _ _ _))⟩))); try go_wp2_with (first | (go_at_call 43; (with_reducible refine (frame_lineError.calls k1 _ _ ((rd_T52 l0 x10_1).f2) t162 _ ?side1 ?side2 A18.out).mono ?_); (case side1 => exact Kd.C_below HR160_2.out (by repeat (first | (with_reducible first | exact HB.out | apply below_alloc | apply pw_below_drewN | apply below_drew1 | refine below_set ?_ GE161.out) | exact HB.out))); (case side2 => exact HC160_2.out); rintro e w' ⟨rfl, ⟨nd, rfl⟩⟩; (try first | exact ⟨rfl, _, World.drewN_drewN _ _ _⟩ | exact ⟨rfl, _, Eq.trans (World.drewN_drewN _ _ _) (congrArg (World.drewN _) (Nat.add_assoc _ _ _))⟩))))
             go_meet
             case rel => exact ⟨_, ((t162 != 0)), (by first | rfl | (simp; done) | (simp [*]; done)), H', ⟨by have := HK1.out; first | omega | exact Nat.le_refl _⟩, ⟨by (with_reducible repeat (first | refine blk_drewN ?_ _ | refine blk_drew ?_ | refine blk_alloc ?_ _)); refine blk_put (cs := #[.int .i64 ((rd_T52 l0 x10_1).f0), .int .i64 ((rd_T52 l0 x10_1).f1), .slice none 0 0]) ?_ 2 _ rfl; (with_reducible repeat (first | refine blk_drewN ?_ _ | refine blk_drew ?_ | refine blk_alloc ?_ _)); refine blk_put (cs := #[.int .i64 ((rd_T52 l0 x10_1).f0), .int .i64 0, .slice none 0 0]) ?_ 1 _ rfl; (with_reducible repeat (first | refine blk_drewN ?_ _ | refine blk_drew ?_ | refine blk_alloc ?_ _)); refine blk_put (cs := #[.int .i64 0, .int .i64 0, .slice none 0 0]) ?_ 0 _ rfl; (with_reducible repeat (first | refine blk_drewN ?_ _ | refine blk_drew ?_ | refine blk_alloc ?_ _)); exact BK161.out⟩, ⟨by repeat (first | (with_reducible first | exact HB.out | apply below_alloc | apply pw_below_drewN | apply below_drew1 | refine below_set ?_ GE161.out) | exact HB.out)⟩⟩
           ·rw [if_neg c15] at H
            have c15b0 : (((rd_T52 l0 x10_1).f1) == 0) = false := beq_eq_false_iff_ne.mpr c15
            have c15b1 : (((rd_T52 l0 x10_1).f1) != 0) = true := bne_iff_ne.mpr c15
            replace H := Option.bind_eq_some_iff.mp H
            obtain ⟨t163, A200, H⟩ := H
            replace H : (frame_possible.j1 k1 l0 x10_1 l0 (l0.length : Int) x10_1 (t163 != 0) ((rd_T52 l0 x10_1).f0) ((rd_T52 l0 x10_1).f1) ((rd_T52 l0 x10_1).f2)) = some r := H
            have A20 := Aside0.mk A200
            clear A200
            have H' := Aside0.mk H
            clear H
            have hcz21_0 : w7.cell? ⟨gb161, 0, none⟩ = some (.int .i64 0) := (blk_cell BK161.out 0).trans rfl
            have hcz21_1 : w7.cell? ⟨gb161, 1, none⟩ = some (.int .i64 0) := (blk_cell BK161.out 1).trans rfl
            have hcz21_2 : w7.cell? ⟨gb161, 2, none⟩ = some (.slice none 0 0) := (blk_cell BK161.out 2).trans rfl
            have hfz21_0 := blk_frozen BK161.out 0
            have hfz21_1 := blk_frozen BK161.out 1
            have hfz21_2 := blk_frozen BK161.out 2
            go_wp2_with (first | (go_at_call 43; (with_reducible refine (frame_lineError.calls k1 _ _ ((rd_T52 l0 x10_1).f2) t163 _ ?side1 ?side2 A20.out).mono ?_); (case side1 => exact Kd.C_below HR160_2.out (by repeat (first | (with_reducible first | exact HB.out | apply below_alloc | apply pw_below_drewN | apply below_drew1 | refine below_set ?_ GE161.out) | exact HB.out))); (case side2 => exact HC160_2.out); rintro e w' ⟨rfl, ⟨nd, rfl⟩⟩; (try first | exact ⟨rfl, _, World.drewN_drewN _ _ _⟩ | exact ⟨rfl, _, Eq.trans (World.drewN_drewN _ _ _) (congrArg (World.drewN _) (Nat.add_assoc _ _ _))⟩)))
            repeat (go_quiet (first | (go_at_call 43; (with_reducible refine (frame_lineError.calls k1 _ _ ((rd_T52 l0 x10_1).f2) t163 _ ?side1 ?side2 A20.out).mono ?_); (case side1 => exact Kd.C_below HR160_2.out (by repeat (first | (with_reducible first | exact HB.out | apply below_alloc | apply pw_below_drewN | apply below_drew1 | refine below_set ?_ GE161.out) | exact HB.out))); (case side2 => exact HC160_2.out); rintro e w' ⟨rfl, ⟨nd, rfl⟩⟩; (try first | exact ⟨rfl, _, World.drewN_drewN _ _ _⟩ | exact ⟨rfl, _, Eq.trans (World.drewN_drewN _ _ _) (congrArg (World.drewN _) (Nat.add_assoc _ _ _))⟩))); try go_wp2_with (first | (go_at_call 43; (with_reducible refine (frame_lineError.calls k1 _ _ ((rd_T52 l0 x10_1).f2) t163 _ ?side1 ?side2 A20.out).mono ?_); (case side1 => exact Kd.C_below HR160_2.out (by repeat (first | (with_reducible first | exact HB.out | apply below_alloc | apply pw_below_drewN | apply below_drew1 | refine below_set ?_ GE161.out) | exact HB.out))); (case side2 => exact HC160_2.out); rintro e w' ⟨rfl, ⟨nd, rfl⟩⟩; (try first | exact ⟨rfl, _, World.drewN_drewN _ _ _⟩ | exact ⟨rfl, _, Eq.trans (World.drewN_drewN _ _ _) (congrArg (World.drewN _) (Nat.add_assoc _ _ _))⟩))))
            go_meet
            case rel => exact ⟨_, ((t163 != 0)), (by first | rfl | (simp; done) | (simp [*]; done)), H', ⟨by have := HK1.out; first | omega | exact Nat.le_refl _⟩, ⟨by (with_reducible repeat (first | refine blk_drewN ?_ _ | refine blk_drew ?_ | refine blk_alloc ?_ _)); refine blk_put (cs := #[.int .i64 ((rd_T52 l0 x10_1).f0), .int .i64 ((rd_T52 l0 x10_1).f1), .slice none 0 0]) ?_ 2 _ rfl; (with_reducible repeat (first | refine blk_drewN ?_ _ | refine blk_drew ?_ | refine blk_alloc ?_ _)); refine blk_put (cs := #[.int .i64 ((rd_T52 l0 x10_1).f0), .int .i64 0, .slice none 0 0]) ?_ 1 _ rfl; (with_reducible repeat (first | refine blk_drewN ?_ _ | refine blk_drew ?_ | refine blk_alloc ?_ _)); refine blk_put (cs := #[.int .i64 0, .int .i64 0, .slice none 0 0]) ?_ 0 _ rfl; (with_reducible repeat (first | refine blk_drewN ?_ _ | refine blk_drew ?_ | refine blk_alloc ?_ _)); exact BK161.out⟩, ⟨by repeat (first | (with_reducible first | exact HB.out | apply below_alloc | apply pw_below_drewN | apply below_drew1 | refine below_set ?_ GE161.out) | exact HB.out)⟩⟩
       case rest =>
        clear HC6
        try clear c1
        try clear p1
        try clear q1
        try clear hx1
        try clear c2
        try clear c2b0
        try clear c2b1
        try clear p2
        try clear c3
        try clear c3b0
        try clear c4
        try clear c4b0
        try clear c5
        try clear c5b0
        try clear c9
        try clear c9b0
        try clear c11
        try clear c11b0
        try clear c13
        try clear c13b0
        try clear c15
        try clear c15b0
        try clear c15b1
        try clear c16
        try clear c16b0
        try clear c16b1
        try clear c16b2
        try clear p16
        try clear q16
        try clear hx16
        try clear hcz10_0
        try clear hcz10_1
        try clear hcz10_2
        try clear hcz12_0
        try clear hcz12_1
        try clear hcz12_2
        try clear hcz14_0
        try clear hcz14_1
        try clear hcz14_2
        try clear hcz17_0
        try clear hcz17_1
        try clear hcz17_2
        try clear hcz19_0
        try clear hcz19_1
        try clear hcz19_2
        try clear hcz21_0
        try clear hcz21_1
        try clear hcz21_2
        try clear hcz8_0
        try clear hcz8_1
        try clear hcz8_2
        try clear hfz10_0
        try clear hfz10_1
        try clear hfz10_2
        try clear hfz12_0
        try clear hfz12_1
        try clear hfz12_2
        try clear hfz14_0
        try clear hfz14_1
        try clear hfz14_2
        try clear hfz17_0
        try clear hfz17_1
        try clear hfz17_2
        try clear hfz19_0
        try clear hfz19_1
        try clear hfz19_2
        try clear hfz21_0
        try clear hfz21_1
        try clear hfz21_2
        try clear hfz8_0
        try clear hfz8_1
        try clear hfz8_2
        try clear hx160_0
        try clear hx160_1
        try clear hx160_2
        try clear p160
        try clear p2
        try clear q160
        obtain ⟨kq, x44_5, rfl, HA, HJ5, BK161, HB⟩ := hcut
        cases kq with
        | zero => exact absurd HA.out (by simp [frame_possible.j1])
        | succ kj5 =>
         have H := HA.out
         clear HA
         simp only [frame_possible.j1] at H
         by_cases c22 : x44_5 = true
         ·subst c22
          have H1 : (some false) = some r := by rw [if_pos rfl] at H; exact H
          clear H
          have H := H1
          clear H1
          obtain rfl := Option.some.inj H
          go_wp2
          repeat (go_quiet (fail); try go_wp2)
          go_ret
          exact ⟨by first | rfl | (simp [errW_none, errW_some] <;> rfl) | (simp [*, errW_none, errW_some] <;> rfl), by repeat (first | (with_reducible first | exact HB.out | apply below_alloc | apply pw_below_drewN | apply below_drew1 | refine below_set ?_ GE161.out) | exact HB.out)⟩
         ·replace c22 := Bool.eq_false_iff.mpr c22
          subst c22
          have H1 : (if x10_1 > 0 then (if 0 ≤ (wrap64 (x10_1 - 1)) then (if (wrap64 (x10_1 - 1)) < (l0.length : Int) then (if (wrap64 (((rd_T52 l0 x10_1).f0) - ((rd_T52 l0 (wrap64 (x10_1 - 1))).f1))) ≤ ((rd_T52 l0 (wrap64 (x10_1 - 1))).f0) then (some false) else (frame_possible.l0 kj5 l0 l0 (l0.length : Int) (wrap64 (x10_1 + 1)))) else (none)) else (none)) else (frame_possible.l0 kj5 l0 l0 (l0.length : Int) (wrap64 (x10_1 + 1)))) = some r := by rw [if_neg (show ¬ (false = true) by decide)] at H; exact H
          clear H
          have H := H1
          clear H1
          by_cases c23 : x10_1 > 0
          ·rw [if_pos c23] at H
           have c23b0 : decide (0 < x10_1) = true := decide_eq_true c23
           clear c23
           obtain ⟨ji24, hji24⟩ : ∃ j_ : Int, (wrap64 (x10_1 - 1)) = j_ := ⟨_, rfl⟩
           replace H : (if 0 ≤ (ji24) then (if (ji24) < (l0.length : Int) then (if (wrap64 (((rd_T52 l0 x10_1).f0) - ((rd_T52 l0 (ji24)).f1))) ≤ ((rd_T52 l0 (ji24)).f0) then (some false) else (frame_possible.l0 kj5 l0 l0 (l0.length : Int) (wrap64 (x10_1 + 1)))) else (none)) else (none)) = some r := by first | (rw [hji24] at H; exact H) | (simp only [hji24] at H ⊢; exact H)
           have hji24w : (IntKind.i64.wrap (x10_1 - 1)) = ji24 := (i64_w _).trans hji24
           by_cases c25 : 0 ≤ (ji24)
           ·rw [if_pos c25] at H
            have c25b0 : decide (0 ≤ (ji24)) = true := decide_eq_true c25
            clear c25
            by_cases c26 : (ji24) < (l0.length : Int)
            ·rw [if_pos c26] at H
             have c26b0 : decide ((ji24) < (l0.length : Int)) = true := decide_eq_true c26
             clear c26
             by_cases c27 : (wrap64 (((rd_T52 l0 x10_1).f0) - ((rd_T52 l0 (ji24)).f1))) ≤ ((rd_T52 l0 (ji24)).f0)
             ·rw [if_pos c27] at H
              have c27b0 : decide ((wrap64 (((rd_T52 l0 x10_1).f0) - ((rd_T52 l0 (ji24)).f1))) ≤ ((rd_T52 l0 (ji24)).f0)) = true := decide_eq_true c27
              clear c27
              obtain rfl := Option.some.inj H
              have hcz28_0 : wc.cell? ⟨gb161, 0, none⟩ = some (.int .i64 ((rd_T52 l0 x10_1).f0)) := (blk_cell BK161.out 0).trans rfl
              have hcz28_1 : wc.cell? ⟨gb161, 1, none⟩ = some (.int .i64 ((rd_T52 l0 x10_1).f1)) := (blk_cell BK161.out 1).trans rfl
              have hcz28_2 : wc.cell? ⟨gb161, 2, none⟩ = some (.slice A160_2 ((rd_T52 l0 x10_1).f2).length c160_2) := (blk_cell BK161.out 2).trans rfl
              have hfz28_0 := blk_frozen BK161.out 0
              have hfz28_1 := blk_frozen BK161.out 1
              have hfz28_2 := blk_frozen BK161.out 2
              have p164 : 0 ≤ ((ji24) : Int) := of_decide_eq_true (by first | (with_reducible assumption) | assumption)
              have q164 : (ji24) < (l0.length : Int) := of_decide_eq_true (by first | (with_reducible assumption) | assumption)
              obtain ⟨ad164, A164_2, c164_2, e164, hx164_0, hx164_1, hx164_2, hl164_2, hi164_2⟩ := at_T52 HR0.out (ji24) p164 q164
              obtain rfl : ad160 = ad164 := (by injection e164)
              replace hx164_0 := (HB.out.cell (World.block_lt_of_cell? w _ hx164_0)).trans hx164_0
              replace hx164_1 := (HB.out.cell (World.block_lt_of_cell? w _ hx164_1)).trans hx164_1
              replace hx164_2 := (HB.out.cell (World.block_lt_of_cell? w _ hx164_2)).trans hx164_2
              have HR164_2 := Aside0.mk hi164_2
              have HC164_2 := Aside0.mk hl164_2
              clear hi164_2 hl164_2
              replace p164 := eq_true p164
              replace q164 := eq_true q164
              have p165 : 0 ≤ ((ji24) : Int) := of_decide_eq_true (by first | (with_reducible assumption) | assumption)
              have q165 : (ji24) < (l0.length : Int) := of_decide_eq_true (by first | (with_reducible assumption) | assumption)
              obtain ⟨ad165, A165_2, c165_2, e165, hx165_0, hx165_1, hx165_2, hl165_2, hi165_2⟩ := at_T52 HR0.out (ji24) p165 q165
              obtain rfl : ad160 = ad165 := (by injection e165)
              replace hx165_0 := (HB.out.cell (World.block_lt_of_cell? w _ hx165_0)).trans hx165_0
              replace hx165_1 := (HB.out.cell (World.block_lt_of_cell? w _ hx165_1)).trans hx165_1
              replace hx165_2 := (HB.out.cell (World.block_lt_of_cell? w _ hx165_2)).trans hx165_2
              have HR165_2 := Aside0.mk hi165_2
              have HC165_2 := Aside0.mk hl165_2
              clear hi165_2 hl165_2
              replace p165 := eq_true p165
              replace q165 := eq_true q165
              have ea_ := Option.some.inj (hx164_2.symm.trans hx165_2)
              injection ea_ with ea_ en_ ec_
              subst ea_
              subst ec_
              clear en_
              go_wp2
              repeat (go_quiet (fail); try go_wp2)
              go_ret
              exact ⟨by first | rfl | (simp [errW_none, errW_some] <;> rfl) | (simp only [← hji24]; first | rfl | (simp [errW_none, errW_some] <;> rfl)) | (simp [*, errW_none, errW_some] <;> rfl), by repeat (first | (with_reducible first | exact HB.out | apply below_alloc | apply pw_below_drewN | apply below_drew1 | refine below_set ?_ GE161.out) | exact HB.out)⟩
             ·rw [if_neg c27] at H
              have c27b0 : decide ((wrap64 (((rd_T52 l0 x10_1).f0) - ((rd_T52 l0 (ji24)).f1))) ≤ ((rd_T52 l0 (ji24)).f0)) = false := decide_eq_false c27
              clear c27
              have H' := Aside0.mk H
              clear H
              have hcz29_0 : wc.cell? ⟨gb161, 0, none⟩ = some (.int .i64 ((rd_T52 l0 x10_1).f0)) := (blk_cell BK161.out 0).trans rfl
              have hcz29_1 : wc.cell? ⟨gb161, 1, none⟩ = some (.int .i64 ((rd_T52 l0 x10_1).f1)) := (blk_cell BK161.out 1).trans rfl
              have hcz29_2 : wc.cell? ⟨gb161, 2, none⟩ = some (.slice A160_2 ((rd_T52 l0 x10_1).f2).length c160_2) := (blk_cell BK161.out 2).trans rfl
              have hfz29_0 := blk_frozen BK161.out 0
              have hfz29_1 := blk_frozen BK161.out 1
              have hfz29_2 := blk_frozen BK161.out 2
              have p164 : 0 ≤ ((ji24) : Int) := of_decide_eq_true (by first | (with_reducible assumption) | assumption)
              have q164 : (ji24) < (l0.length : Int) := of_decide_eq_true (by first | (with_reducible assumption) | assumption)
              obtain ⟨ad164, A164_2, c164_2, e164, hx164_0, hx164_1, hx164_2, hl164_2, hi164_2⟩ := at_T52 HR0.out (ji24) p164 q164
              obtain rfl : ad160 = ad164 := (by injection e164)
              replace hx164_0 := (HB.out.cell (World.block_lt_of_cell? w _ hx164_0)).trans hx164_0
              replace hx164_1 := (HB.out.cell (World.block_lt_of_cell? w _ hx164_1)).trans hx164_1
              replace hx164_2 := (HB.out.cell (World.block_lt_of_cell? w _ hx164_2)).trans hx164_2
              have HR164_2 := Aside0.mk hi164_2
              have HC164_2 := Aside0.mk hl164_2
              clear hi164_2 hl164_2
              replace p164 := eq_true p164
              replace q164 := eq_true q164
              have p165 : 0 ≤ ((ji24) : Int) := of_decide_eq_true (by first | (with_reducible assumption) | assumption)
              have q165 : (ji24) < (l0.length : Int) := of_decide_eq_true (by first | (with_reducible assumption) | assumption)
              obtain ⟨ad165, A165_2, c165_2, e165, hx165_0, hx165_1, hx165_2, hl165_2, hi165_2⟩ := at_T52 HR0.out (ji24) p165 q165
              obtain rfl : ad160 = ad165 := (by injection e165)
              replace hx165_0 := (HB.out.cell (World.block_lt_of_cell? w _ hx165_0)).trans hx165_0
              replace hx165_1 := (HB.out.cell (World.block_lt_of_cell? w _ hx165_1)).trans hx165_1
              replace hx165_2 := (HB.out.cell (World.block_lt_of_cell? w _ hx165_2)).trans hx165_2
              have HR165_2 := Aside0.mk hi165_2
              have HC165_2 := Aside0.mk hl165_2
              clear hi165_2 hl165_2
              replace p165 := eq_true p165
              replace q165 := eq_true q165
              have ea_ := Option.some.inj (hx164_2.symm.trans hx165_2)
              injection ea_ with ea_ en_ ec_
              subst ea_
              subst ec_
              clear en_
              go_wp2
              repeat (go_quiet (fail); try go_wp2)
              go_roundg kj5
              case measure => have := HK1.out; have := HJ5.out; omega
              case rel => exact ⟨(wrap64 (x10_1 + 1)), (by first | rfl | (simp; done) | (simp [*]; done)), H', ⟨by have := HK1.out; have := HJ5.out; omega⟩, ⟨by repeat (first | (with_reducible first | exact HB.out | apply below_alloc | apply pw_below_drewN | apply below_drew1 | refine below_set ?_ GE161.out) | exact HB.out)⟩⟩
            ·rw [if_neg c26] at H
             exact absurd H (by simp)
           ·rw [if_neg c25] at H
            exact absurd H (by simp)
          ·rw [if_neg c23] at H
           have c23b0 : decide (0 < x10_1) = false := decide_eq_false c23
           clear c23
           have H' := Aside0.mk H
           clear H
           go_wp2
           repeat (go_quiet (fail); try go_wp2)
           go_roundg kj5
           case measure => have := HK1.out; have := HJ5.out; omega
           case rel => exact ⟨(wrap64 (x10_1 + 1)), (by first | rfl | (simp; done) | (simp [*]; done)), H', ⟨by have := HK1.out; have := HJ5.out; omega⟩, ⟨by repeat (first | (with_reducible first | exact HB.out | apply below_alloc | apply pw_below_drewN | apply below_drew1 | refine below_set ?_ GE161.out) | exact HB.out)⟩⟩
      ·rw [if_neg c5] at H
       exact absurd H (by simp)
     ·rw [if_neg c4] at H
      exact absurd H (by simp)
    ·rw [if_neg c3] at H
     have c3b0 : decide (x10_1 < (l0.length : Int)) = false := decide_eq_false c3
     clear c3
     obtain rfl := Option.some.inj H
     go_wp2
     repeat (go_quiet (fail); try go_wp2)
     go_ret
     exact ⟨by first | rfl | (simp [errW_none, errW_some] <;> rfl) | (simp [*, errW_none, errW_some] <;> rfl), by repeat (first | (with_reducible first | exact HB.out | apply below_alloc | apply pw_below_drewN | apply below_drew1) | exact HB.out)⟩
end Go.Proofs.YtfpopmojlmpopaaDoor.G

end
section
namespace Go.Proofs.YtfpopmojlmpopaaDoor.G
open Go.RowKit Go.Proofs.YtfpopmojlmpopaaDoorW.PrintWords Go.Proofs.YtfpopmojlmpopaaDoorW.PrintLast Go.Proofs.YtfpopmojlmpopaaDoorW.PrintMore
attribute [local go_sem] max2_int min2_int max_two min_two max_three min_three max_four min_four
set_option linter.unusedVariables false
set_option linter.unusedSimpArgs false
def frame_isDisplay.f (a0 : Int) : Option (Bool) := if 1 ≤ a0 then (some (decide (a0 ≤ 16))) else (some false)
set_option maxHeartbeats 8000000 in
set_option maxRecDepth 100000 in
theorem frame_isDisplay.calls (a0 : Int) (r : Bool) (w : World) (h : frame_isDisplay.f a0 = some r) :
  Calls Tryd.prog 60 #[.int .i64 a0] w fun e w' => e = .returned (.bool r) ∧ Drawn0 w w' := by
 have H : (if 1 ≤ a0 then (some (decide (a0 ≤ 16))) else (some false)) = some r := h
 clear h
 by_cases c2 : 1 ≤ a0
 ·rw [if_pos c2] at H
  have c2b0 : decide (1 ≤ a0) = true := decide_eq_true c2
  clear c2
  obtain rfl := Option.some.inj H
  go_enter Tryd.func60, Tryd.ntmps60
  go_wp2
  go_ret
  exact ⟨by first | rfl | (simp; done) | (simp [*]; done), by repeat (first | exact Drawn0.refl _ | apply Drawn0.step)⟩
 ·rw [if_neg c2] at H
  have c2b0 : decide (1 ≤ a0) = false := decide_eq_false c2
  clear c2
  obtain rfl := Option.some.inj H
  go_enter Tryd.func60, Tryd.ntmps60
  go_wp2
  go_ret
  exact ⟨by first | rfl | (simp; done) | (simp [*]; done), by repeat (first | exact Drawn0.refl _ | apply Drawn0.step)⟩
def frame_routed.j0 : Nat → Int → Bool → Int → Int → Int → Int → Int → List ByteArray → List (S52) → Option (Bool)
 | 0, _, _, _, _, _, _, _, _, _ => none
 | k + 1, x4, x5, x312000, x312001, x312002, x312003, x312004, x312005, x312006 => if x5 = true then ((frame_isDisplay.f x312001).bind fun t312 => (if t312 = true then (if x312002 = 0 then (if (x312005.length : Int) = 0 then (some ((x312006.length : Int) == 0)) else (some false)) else (some false)) else (some false))) else (if x4 = 2 then (if x312001 = 0 then ((frame_isDisplay.f x312002).bind fun t313 => (if t313 = true then (some ((x312006.length : Int) == 0)) else (some false))) else (some false)) else (if x4 = 3 then (if x312001 = 0 then ((frame_isDisplay.f x312002).bind fun t314 => (if t314 = true then (some ((x312005.length : Int) == 0)) else (some false))) else (some false)) else (if x4 = 4 then (if x312001 = 0 then ((frame_isDisplay.f x312002).bind fun t315 => (if t315 = true then (if (x312005.length : Int) = 0 then (some ((x312006.length : Int) == 0)) else (some false)) else (some false))) else (some false)) else (some false))))
def frame_routed.f (k : Nat) (a0_0 : Int) (a0_1 : Int) (a0_2 : Int) (a0_3 : Int) (a0_4 : Int) (l0_5 : List ByteArray) (l0_6 : List (S52)) : Option (Bool) := if a0_0 = 1 then (frame_routed.j0 k a0_0 (a0_0 == 1) a0_0 a0_1 a0_2 a0_3 a0_4 l0_5 l0_6) else (frame_routed.j0 k a0_0 (a0_0 == 5) a0_0 a0_1 a0_2 a0_3 a0_4 l0_5 l0_6)
theorem frame_routed.mono_l : ∀ k, (∀ y0 y1 y2 y3 y4 y5 y6 y7 y8, LeO (frame_routed.j0 k y0 y1 y2 y3 y4 y5 y6 y7 y8) (frame_routed.j0 (k + 1) y0 y1 y2 y3 y4 y5 y6 y7 y8))
 | 0 => fun _ _ _ _ _ _ _ _ _ r h => by simp [frame_routed.j0] at h
 | k + 1 => by
  have ih0 := frame_routed.mono_l k
  ·intro y0 y1 y2 y3 y4 y5 y6 y7 y8
   unfold frame_routed.j0
   repeat' first
   | (with_reducible exact ih0 _ _ _ _ _ _ _ _ _)
   | (with_reducible exact LeO.refl _)
   | (with_reducible exact LeO.none _)
   | (with_reducible refine LeO.ite ?_ ?_)
   | (with_reducible refine LeO.bind ?_ (fun _ => ?_))
   | exact ih0 _ _ _ _ _ _ _ _ _
   | exact LeO.none _
   | refine LeO.ite ?_ ?_
   | refine LeO.bind ?_ (fun _ => ?_)
theorem frame_routed.mono : ∀ a0 a1 a2 a3 a4 a5 a6 k, LeO (frame_routed.f k a0 a1 a2 a3 a4 a5 a6) (frame_routed.f (k + 1) a0 a1 a2 a3 a4 a5 a6) := by
 intro a0 a1 a2 a3 a4 a5 a6 k
 have ih0 := frame_routed.mono_l k
 unfold frame_routed.f
 repeat' first
   | (with_reducible exact ih0 _ _ _ _ _ _ _ _ _)
   | (with_reducible exact LeO.refl _)
   | (with_reducible exact LeO.none _)
   | (with_reducible refine LeO.ite ?_ ?_)
   | (with_reducible refine LeO.bind ?_ (fun _ => ?_))
   | exact ih0 _ _ _ _ _ _ _ _ _
   | exact LeO.none _
   | refine LeO.ite ?_ ?_
   | refine LeO.bind ?_ (fun _ => ?_)
set_option maxHeartbeats 8000000 in
set_option maxRecDepth 100000 in
theorem frame_routed.calls (k : Nat) (a0_0 : Int) (a0_1 : Int) (a0_2 : Int) (a0_3 : Int) (a0_4 : Int) (A0_5 : Option Addr) (c0_5 : Nat) (l0_5 : List ByteArray) (A0_6 : Option Addr) (c0_6 : Nat) (l0_6 : List (S52)) (r : Bool) (w : World) (hr0_5 : Kd.C Kd.string w A0_5 l0_5.length l0_5) (hc0_5 : l0_5.length ≤ c0_5) (hr0_6 : Kd.C k52 w A0_6 l0_6.length l0_6) (hc0_6 : l0_6.length ≤ c0_6) (h : frame_routed.f k a0_0 a0_1 a0_2 a0_3 a0_4 l0_5 l0_6 = some r) :
  Calls Tryd.prog 52 #[.agg #[.int .i64 a0_0, .int .i64 a0_1, .int .i64 a0_2, .int .i64 a0_3, .int .i64 a0_4, .slice A0_5 l0_5.length c0_5, .slice A0_6 l0_6.length c0_6]] w fun e w' => e = .returned (.bool r) ∧ Below w.heap.size w w' := by
 have hu31 := Tryd.underlying31
 have HR0_5 := Aside0.mk hr0_5
 have HC0_5 := Aside0.mk hc0_5
 clear hr0_5 hc0_5
 have HR0_6 := Aside0.mk hr0_6
 have HC0_6 := Aside0.mk hc0_6
 clear hr0_6 hc0_6
 have HB := Aside0.mk (Below.refl w.heap.size w)
 have H : (if a0_0 = 1 then (frame_routed.j0 k a0_0 (a0_0 == 1) a0_0 a0_1 a0_2 a0_3 a0_4 l0_5 l0_6) else (frame_routed.j0 k a0_0 (a0_0 == 5) a0_0 a0_1 a0_2 a0_3 a0_4 l0_5 l0_6)) = some r := h
 clear h
 have HC2 := Aside0.mk H
 clear H
 go_enter Tryd.func52, Tryd.ntmps52
 go_upto_if 5 with (first | ((with_reducible refine gate_dst (N := 1) rfl ?_); (try (refine gate_guard (by rfl) ?_; dsimp only)); refine box_event ?hg (N := 1) ?hd (cs := #[.int .i64 a0_0, .int .i64 a0_1, .int .i64 a0_2, .int .i64 a0_3, .int .i64 a0_4, .slice A0_5 l0_5.length c0_5, .slice A0_6 l0_6.length c0_6]) (t := 31) ?hr ?_; (case hd => rfl); (case hg => rfl); (case hr => first | (go_simp; done) | (go_simp; rfl)); intro gb311 hg w3 hbox hb; have n0_ := Aside0.mk (below_step (by repeat (first | (with_reducible first | exact HB.out | apply below_alloc | apply pw_below_drewN | apply below_drew1) | exact HB.out)) hb); have n1_ := Aside0.mk (hbox); have n2_ := Aside0.mk ((by rw [hg]; exact (below_size (by repeat (first | (with_reducible first | exact HB.out | apply below_alloc | apply pw_below_drewN | apply below_drew1) | exact HB.out))) : w.heap.size ≤ gb311)); have n3_ := Aside0.mk ((by rw [hg]; exact (below_size (by repeat (first | (with_reducible first | exact HB.out | apply below_alloc | apply pw_below_drewN | apply below_drew1) | exact HB.out))) : w.heap.size ≤ gb311)); clear HB; have HB := n0_; have BK311 := n1_; have GW311 := n2_; have GE311 := n3_; clear n0_ n1_ n2_ n3_; clear hb hbox hg; have hcz4_0 : w3.cell? ⟨gb311, 0, none⟩ = some (.int .i64 a0_0) := (blk_cell BK311.out 0).trans rfl; have hcz4_1 : w3.cell? ⟨gb311, 1, none⟩ = some (.int .i64 a0_1) := (blk_cell BK311.out 1).trans rfl; have hcz4_2 : w3.cell? ⟨gb311, 2, none⟩ = some (.int .i64 a0_2) := (blk_cell BK311.out 2).trans rfl; have hcz4_3 : w3.cell? ⟨gb311, 3, none⟩ = some (.int .i64 a0_3) := (blk_cell BK311.out 3).trans rfl; have hcz4_4 : w3.cell? ⟨gb311, 4, none⟩ = some (.int .i64 a0_4) := (blk_cell BK311.out 4).trans rfl; have hcz4_5 : w3.cell? ⟨gb311, 5, none⟩ = some (.slice A0_5 l0_5.length c0_5) := (blk_cell BK311.out 5).trans rfl; have hcz4_6 : w3.cell? ⟨gb311, 6, none⟩ = some (.slice A0_6 l0_6.length c0_6) := (blk_cell BK311.out 6).trans rfl; have hfz4_0 := blk_frozen BK311.out 0; have hfz4_1 := blk_frozen BK311.out 1; have hfz4_2 := blk_frozen BK311.out 2; have hfz4_3 := blk_frozen BK311.out 3; have hfz4_4 := blk_frozen BK311.out 4; have hfz4_5 := blk_frozen BK311.out 5; have hfz4_6 := blk_frozen BK311.out 6))
 (try simp only [Act.put, List.setIfInBounds_toArray, List.set_cons_zero, List.set_cons_succ])
 go_cut [5] (fun v5 wc => ∃ (kq : Nat) (x5_1 : Bool), v5 = .bool x5_1 ∧ Aside0 (frame_routed.j0 kq a0_0 x5_1 a0_0 a0_1 a0_2 a0_3 a0_4 l0_5 l0_6 = some r) ∧ Aside0 (kq ≤ k) ∧ Aside0 (wc.heap[gb311]? = some (.cells #[.int .i64 a0_0, .int .i64 a0_1, .int .i64 a0_2, .int .i64 a0_3, .int .i64 a0_4, (.slice A0_5 l0_5.length c0_5), (.slice A0_6 l0_6.length c0_6)] 31 (0, 0))) ∧ Aside0 (Below w.heap.size w wc))
 case first =>
  have H := HC2.out
  clear HC2
  by_cases c5 : a0_0 = 1
  ·rw [if_pos c5] at H
   have c5b0 : (a0_0 == 1) = true := beq_iff_eq.mpr c5
   have c5b1 : (a0_0 != 1) = false := bne_eq_false_iff_eq.mpr c5
   clear c5
   (first | rw [c5b0] | (simp only [i64_w, i32_w]; rw [c5b0]) | skip)
   have H' := Aside0.mk H
   clear H
   go_wp2
   go_meet
   case rel => exact ⟨_, ((a0_0 == 1)), (by first | rfl | (simp; done) | (simp [*]; done)), H', ⟨by first | omega | exact Nat.le_refl _⟩, ⟨by (with_reducible repeat (first | refine blk_drewN ?_ _ | refine blk_drew ?_ | refine blk_alloc ?_ _)); exact BK311.out⟩, ⟨by repeat (first | (with_reducible first | exact HB.out | apply below_alloc | apply pw_below_drewN | apply below_drew1 | refine below_set ?_ GE311.out) | exact HB.out)⟩⟩
  ·rw [if_neg c5] at H
   have c5b0 : (a0_0 == 1) = false := beq_eq_false_iff_ne.mpr c5
   have c5b1 : (a0_0 != 1) = true := bne_iff_ne.mpr c5
   (first | rw [c5b0] | (simp only [i64_w, i32_w]; rw [c5b0]) | skip)
   have H' := Aside0.mk H
   clear H
   go_wp2
   go_meet
   case rel => exact ⟨_, ((a0_0 == 5)), (by first | rfl | (simp; done) | (simp [*]; done)), H', ⟨by first | omega | exact Nat.le_refl _⟩, ⟨by (with_reducible repeat (first | refine blk_drewN ?_ _ | refine blk_drew ?_ | refine blk_alloc ?_ _)); exact BK311.out⟩, ⟨by repeat (first | (with_reducible first | exact HB.out | apply below_alloc | apply pw_below_drewN | apply below_drew1 | refine below_set ?_ GE311.out) | exact HB.out)⟩⟩
 case rest =>
  clear HC2
  try clear p2
  try clear c5
  try clear c5b0
  try clear c5b1
  try clear hcz4_0
  try clear hcz4_1
  try clear hcz4_2
  try clear hcz4_3
  try clear hcz4_4
  try clear hcz4_5
  try clear hcz4_6
  try clear hfz4_0
  try clear hfz4_1
  try clear hfz4_2
  try clear hfz4_3
  try clear hfz4_4
  try clear hfz4_5
  try clear hfz4_6
  obtain ⟨kq, x5_1, rfl, HA, HJ1, BK311, HB⟩ := hcut
  cases kq with
  | zero => exact absurd HA.out (by simp [frame_routed.j0])
  | succ kj1 =>
   have H := HA.out
   clear HA
   simp only [frame_routed.j0] at H
   by_cases c6 : x5_1 = true
   ·subst c6
    have H1 : ((frame_isDisplay.f a0_1).bind fun t312 => (if t312 = true then (if a0_2 = 0 then (if (l0_5.length : Int) = 0 then (some ((l0_6.length : Int) == 0)) else (some false)) else (some false)) else (some false))) = some r := by rw [if_pos rfl] at H; exact H
    clear H
    have H := H1
    clear H1
    replace H := Option.bind_eq_some_iff.mp H
    obtain ⟨t312, A70, H⟩ := H
    replace H : (if t312 = true then (if a0_2 = 0 then (if (l0_5.length : Int) = 0 then (some ((l0_6.length : Int) == 0)) else (some false)) else (some false)) else (some false)) = some r := H
    have A7 := Aside0.mk A70
    clear A70
    by_cases c8 : t312 = true
    ·subst c8
     have H1 : (if a0_2 = 0 then (if (l0_5.length : Int) = 0 then (some ((l0_6.length : Int) == 0)) else (some false)) else (some false)) = some r := by rw [if_pos rfl] at H; exact H
     clear H
     have H := H1
     clear H1
     by_cases c9 : a0_2 = 0
     ·rw [if_pos c9] at H
      have c9b0 : (a0_2 == 0) = true := beq_iff_eq.mpr c9
      have c9b1 : (a0_2 != 0) = false := bne_eq_false_iff_eq.mpr c9
      clear c9
      by_cases c10 : (l0_5.length : Int) = 0
      ·rw [if_pos c10] at H
       have c10b0 : ((l0_5.length : Int) == 0) = true := beq_iff_eq.mpr c10
       have c10b1 : ((l0_5.length : Int) != 0) = false := bne_eq_false_iff_eq.mpr c10
       clear c10
       obtain rfl := Option.some.inj H
       have hcz11_0 : wc.cell? ⟨gb311, 0, none⟩ = some (.int .i64 a0_0) := (blk_cell BK311.out 0).trans rfl
       have hcz11_1 : wc.cell? ⟨gb311, 1, none⟩ = some (.int .i64 a0_1) := (blk_cell BK311.out 1).trans rfl
       have hcz11_2 : wc.cell? ⟨gb311, 2, none⟩ = some (.int .i64 a0_2) := (blk_cell BK311.out 2).trans rfl
       have hcz11_3 : wc.cell? ⟨gb311, 3, none⟩ = some (.int .i64 a0_3) := (blk_cell BK311.out 3).trans rfl
       have hcz11_4 : wc.cell? ⟨gb311, 4, none⟩ = some (.int .i64 a0_4) := (blk_cell BK311.out 4).trans rfl
       have hcz11_5 : wc.cell? ⟨gb311, 5, none⟩ = some (.slice A0_5 l0_5.length c0_5) := (blk_cell BK311.out 5).trans rfl
       have hcz11_6 : wc.cell? ⟨gb311, 6, none⟩ = some (.slice A0_6 l0_6.length c0_6) := (blk_cell BK311.out 6).trans rfl
       have hfz11_0 := blk_frozen BK311.out 0
       have hfz11_1 := blk_frozen BK311.out 1
       have hfz11_2 := blk_frozen BK311.out 2
       have hfz11_3 := blk_frozen BK311.out 3
       have hfz11_4 := blk_frozen BK311.out 4
       have hfz11_5 := blk_frozen BK311.out 5
       have hfz11_6 := blk_frozen BK311.out 6
       go_wp2_with (first | ((with_reducible refine gate_callee (f := 60) rfl ?_); refine goesL_ (some 10) rfl rfl Tryd.func60 (by kernel_rfl) rfl #[.int .i64 a0_1] rfl (by (try simp only [List.map_toArray, List.map_cons, List.map_nil]); first | done | rfl | (simp only [List.length_drop, List.length_take]; rfl)) ?_; (with_reducible refine (frame_isDisplay.calls a0_1 true _ A7.out).mono ?_); rintro e w' ⟨rfl, ⟨nd, rfl⟩⟩; refine ⟨_, rfl, ?_⟩))
       go_ret
       exact ⟨by first | rfl | (simp [errW_none, errW_some] <;> rfl) | (simp [*, errW_none, errW_some] <;> rfl), by repeat (first | (with_reducible first | exact HB.out | apply below_alloc | apply pw_below_drewN | apply below_drew1 | refine below_set ?_ GE311.out) | exact HB.out)⟩
      ·rw [if_neg c10] at H
       have c10b0 : ((l0_5.length : Int) == 0) = false := beq_eq_false_iff_ne.mpr c10
       have c10b1 : ((l0_5.length : Int) != 0) = true := bne_iff_ne.mpr c10
       have c10b2 : ¬ (l0_5 = []) := fun h_ => c10 (by rw [h_]; rfl)
       obtain rfl := Option.some.inj H
       have hcz12_0 : wc.cell? ⟨gb311, 0, none⟩ = some (.int .i64 a0_0) := (blk_cell BK311.out 0).trans rfl
       have hcz12_1 : wc.cell? ⟨gb311, 1, none⟩ = some (.int .i64 a0_1) := (blk_cell BK311.out 1).trans rfl
       have hcz12_2 : wc.cell? ⟨gb311, 2, none⟩ = some (.int .i64 a0_2) := (blk_cell BK311.out 2).trans rfl
       have hcz12_3 : wc.cell? ⟨gb311, 3, none⟩ = some (.int .i64 a0_3) := (blk_cell BK311.out 3).trans rfl
       have hcz12_4 : wc.cell? ⟨gb311, 4, none⟩ = some (.int .i64 a0_4) := (blk_cell BK311.out 4).trans rfl
       have hcz12_5 : wc.cell? ⟨gb311, 5, none⟩ = some (.slice A0_5 l0_5.length c0_5) := (blk_cell BK311.out 5).trans rfl
       have hcz12_6 : wc.cell? ⟨gb311, 6, none⟩ = some (.slice A0_6 l0_6.length c0_6) := (blk_cell BK311.out 6).trans rfl
       have hfz12_0 := blk_frozen BK311.out 0
       have hfz12_1 := blk_frozen BK311.out 1
       have hfz12_2 := blk_frozen BK311.out 2
       have hfz12_3 := blk_frozen BK311.out 3
       have hfz12_4 := blk_frozen BK311.out 4
       have hfz12_5 := blk_frozen BK311.out 5
       have hfz12_6 := blk_frozen BK311.out 6
       go_wp2_with (first | ((with_reducible refine gate_callee (f := 60) rfl ?_); refine goesL_ (some 10) rfl rfl Tryd.func60 (by kernel_rfl) rfl #[.int .i64 a0_1] rfl (by (try simp only [List.map_toArray, List.map_cons, List.map_nil]); first | done | rfl | (simp only [List.length_drop, List.length_take]; rfl)) ?_; (with_reducible refine (frame_isDisplay.calls a0_1 true _ A7.out).mono ?_); rintro e w' ⟨rfl, ⟨nd, rfl⟩⟩; refine ⟨_, rfl, ?_⟩))
       go_ret
       exact ⟨by first | rfl | (simp [errW_none, errW_some] <;> rfl) | (simp [*, errW_none, errW_some] <;> rfl), by repeat (first | (with_reducible first | exact HB.out | apply below_alloc | apply pw_below_drewN | apply below_drew1 | refine below_set ?_ GE311.out) | exact HB.out)⟩
     ·rw [if_neg c9] at H
      have c9b0 : (a0_2 == 0) = false := beq_eq_false_iff_ne.mpr c9
      have c9b1 : (a0_2 != 0) = true := bne_iff_ne.mpr c9
      obtain rfl := Option.some.inj H
      have hcz13_0 : wc.cell? ⟨gb311, 0, none⟩ = some (.int .i64 a0_0) := (blk_cell BK311.out 0).trans rfl
      have hcz13_1 : wc.cell? ⟨gb311, 1, none⟩ = some (.int .i64 a0_1) := (blk_cell BK311.out 1).trans rfl
      have hcz13_2 : wc.cell? ⟨gb311, 2, none⟩ = some (.int .i64 a0_2) := (blk_cell BK311.out 2).trans rfl
      have hcz13_3 : wc.cell? ⟨gb311, 3, none⟩ = some (.int .i64 a0_3) := (blk_cell BK311.out 3).trans rfl
      have hcz13_4 : wc.cell? ⟨gb311, 4, none⟩ = some (.int .i64 a0_4) := (blk_cell BK311.out 4).trans rfl
      have hcz13_5 : wc.cell? ⟨gb311, 5, none⟩ = some (.slice A0_5 l0_5.length c0_5) := (blk_cell BK311.out 5).trans rfl
      have hcz13_6 : wc.cell? ⟨gb311, 6, none⟩ = some (.slice A0_6 l0_6.length c0_6) := (blk_cell BK311.out 6).trans rfl
      have hfz13_0 := blk_frozen BK311.out 0
      have hfz13_1 := blk_frozen BK311.out 1
      have hfz13_2 := blk_frozen BK311.out 2
      have hfz13_3 := blk_frozen BK311.out 3
      have hfz13_4 := blk_frozen BK311.out 4
      have hfz13_5 := blk_frozen BK311.out 5
      have hfz13_6 := blk_frozen BK311.out 6
      go_wp2_with (first | ((with_reducible refine gate_callee (f := 60) rfl ?_); refine goesL_ (some 10) rfl rfl Tryd.func60 (by kernel_rfl) rfl #[.int .i64 a0_1] rfl (by (try simp only [List.map_toArray, List.map_cons, List.map_nil]); first | done | rfl | (simp only [List.length_drop, List.length_take]; rfl)) ?_; (with_reducible refine (frame_isDisplay.calls a0_1 true _ A7.out).mono ?_); rintro e w' ⟨rfl, ⟨nd, rfl⟩⟩; refine ⟨_, rfl, ?_⟩))
      go_ret
      exact ⟨by first | rfl | (simp [errW_none, errW_some] <;> rfl) | (simp [*, errW_none, errW_some] <;> rfl), by repeat (first | (with_reducible first | exact HB.out | apply below_alloc | apply pw_below_drewN | apply below_drew1 | refine below_set ?_ GE311.out) | exact HB.out)⟩
    ·replace c8 := Bool.eq_false_iff.mpr c8
     subst c8
     have H1 : (some false) = some r := by rw [if_neg (show ¬ (false = true) by decide)] at H; exact H
     clear H
     have H := H1
     clear H1
     obtain rfl := Option.some.inj H
     have hcz14_0 : wc.cell? ⟨gb311, 0, none⟩ = some (.int .i64 a0_0) := (blk_cell BK311.out 0).trans rfl
     have hcz14_1 : wc.cell? ⟨gb311, 1, none⟩ = some (.int .i64 a0_1) := (blk_cell BK311.out 1).trans rfl
     have hcz14_2 : wc.cell? ⟨gb311, 2, none⟩ = some (.int .i64 a0_2) := (blk_cell BK311.out 2).trans rfl
     have hcz14_3 : wc.cell? ⟨gb311, 3, none⟩ = some (.int .i64 a0_3) := (blk_cell BK311.out 3).trans rfl
     have hcz14_4 : wc.cell? ⟨gb311, 4, none⟩ = some (.int .i64 a0_4) := (blk_cell BK311.out 4).trans rfl
     have hcz14_5 : wc.cell? ⟨gb311, 5, none⟩ = some (.slice A0_5 l0_5.length c0_5) := (blk_cell BK311.out 5).trans rfl
     have hcz14_6 : wc.cell? ⟨gb311, 6, none⟩ = some (.slice A0_6 l0_6.length c0_6) := (blk_cell BK311.out 6).trans rfl
     have hfz14_0 := blk_frozen BK311.out 0
     have hfz14_1 := blk_frozen BK311.out 1
     have hfz14_2 := blk_frozen BK311.out 2
     have hfz14_3 := blk_frozen BK311.out 3
     have hfz14_4 := blk_frozen BK311.out 4
     have hfz14_5 := blk_frozen BK311.out 5
     have hfz14_6 := blk_frozen BK311.out 6
     go_wp2_with (first | ((with_reducible refine gate_callee (f := 60) rfl ?_); refine goesL_ (some 10) rfl rfl Tryd.func60 (by kernel_rfl) rfl #[.int .i64 a0_1] rfl (by (try simp only [List.map_toArray, List.map_cons, List.map_nil]); first | done | rfl | (simp only [List.length_drop, List.length_take]; rfl)) ?_; (with_reducible refine (frame_isDisplay.calls a0_1 false _ A7.out).mono ?_); rintro e w' ⟨rfl, ⟨nd, rfl⟩⟩; refine ⟨_, rfl, ?_⟩))
     go_ret
     exact ⟨by first | rfl | (simp [errW_none, errW_some] <;> rfl) | (simp [*, errW_none, errW_some] <;> rfl), by repeat (first | (with_reducible first | exact HB.out | apply below_alloc | apply pw_below_drewN | apply below_drew1 | refine below_set ?_ GE311.out) | exact HB.out)⟩
   ·replace c6 := Bool.eq_false_iff.mpr c6
    subst c6
    have H1 : (if a0_0 = 2 then (if a0_1 = 0 then ((frame_isDisplay.f a0_2).bind fun t313 => (if t313 = true then (some ((l0_6.length : Int) == 0)) else (some false))) else (some false)) else (if a0_0 = 3 then (if a0_1 = 0 then ((frame_isDisplay.f a0_2).bind fun t314 => (if t314 = true then (some ((l0_5.length : Int) == 0)) else (some false))) else (some false)) else (if a0_0 = 4 then (if a0_1 = 0 then ((frame_isDisplay.f a0_2).bind fun t315 => (if t315 = true then (if (l0_5.length : Int) = 0 then (some ((l0_6.length : Int) == 0)) else (some false)) else (some false))) else (some false)) else (some false)))) = some r := by rw [if_neg (show ¬ (false = true) by decide)] at H; exact H
    clear H
    have H := H1
    clear H1
    by_cases c15 : a0_0 = 2
    ·rw [if_pos c15] at H
     have c15b0 : (a0_0 == 2) = true := beq_iff_eq.mpr c15
     have c15b1 : (a0_0 != 2) = false := bne_eq_false_iff_eq.mpr c15
     clear c15
     by_cases c16 : a0_1 = 0
     ·rw [if_pos c16] at H
      have c16b0 : (a0_1 == 0) = true := beq_iff_eq.mpr c16
      have c16b1 : (a0_1 != 0) = false := bne_eq_false_iff_eq.mpr c16
      clear c16
      replace H := Option.bind_eq_some_iff.mp H
      obtain ⟨t313, A170, H⟩ := H
      replace H : (if t313 = true then (some ((l0_6.length : Int) == 0)) else (some false)) = some r := H
      have A17 := Aside0.mk A170
      clear A170
      by_cases c18 : t313 = true
      ·subst c18
       have H1 : (some ((l0_6.length : Int) == 0)) = some r := by rw [if_pos rfl] at H; exact H
       clear H
       have H := H1
       clear H1
       obtain rfl := Option.some.inj H
       have hcz19_0 : wc.cell? ⟨gb311, 0, none⟩ = some (.int .i64 a0_0) := (blk_cell BK311.out 0).trans rfl
       have hcz19_1 : wc.cell? ⟨gb311, 1, none⟩ = some (.int .i64 a0_1) := (blk_cell BK311.out 1).trans rfl
       have hcz19_2 : wc.cell? ⟨gb311, 2, none⟩ = some (.int .i64 a0_2) := (blk_cell BK311.out 2).trans rfl
       have hcz19_3 : wc.cell? ⟨gb311, 3, none⟩ = some (.int .i64 a0_3) := (blk_cell BK311.out 3).trans rfl
       have hcz19_4 : wc.cell? ⟨gb311, 4, none⟩ = some (.int .i64 a0_4) := (blk_cell BK311.out 4).trans rfl
       have hcz19_5 : wc.cell? ⟨gb311, 5, none⟩ = some (.slice A0_5 l0_5.length c0_5) := (blk_cell BK311.out 5).trans rfl
       have hcz19_6 : wc.cell? ⟨gb311, 6, none⟩ = some (.slice A0_6 l0_6.length c0_6) := (blk_cell BK311.out 6).trans rfl
       have hfz19_0 := blk_frozen BK311.out 0
       have hfz19_1 := blk_frozen BK311.out 1
       have hfz19_2 := blk_frozen BK311.out 2
       have hfz19_3 := blk_frozen BK311.out 3
       have hfz19_4 := blk_frozen BK311.out 4
       have hfz19_5 := blk_frozen BK311.out 5
       have hfz19_6 := blk_frozen BK311.out 6
       go_wp2_with (first | (go_at_call 60; (with_reducible refine (frame_isDisplay.calls a0_2 true _ A17.out).mono ?_); rintro e w' ⟨rfl, ⟨nd, rfl⟩⟩))
       go_ret
       exact ⟨by first | rfl | (simp [errW_none, errW_some] <;> rfl) | (simp [*, errW_none, errW_some] <;> rfl), by repeat (first | (with_reducible first | exact HB.out | apply below_alloc | apply pw_below_drewN | apply below_drew1 | refine below_set ?_ GE311.out) | exact HB.out)⟩
      ·replace c18 := Bool.eq_false_iff.mpr c18
       subst c18
       have H1 : (some false) = some r := by rw [if_neg (show ¬ (false = true) by decide)] at H; exact H
       clear H
       have H := H1
       clear H1
       obtain rfl := Option.some.inj H
       have hcz20_0 : wc.cell? ⟨gb311, 0, none⟩ = some (.int .i64 a0_0) := (blk_cell BK311.out 0).trans rfl
       have hcz20_1 : wc.cell? ⟨gb311, 1, none⟩ = some (.int .i64 a0_1) := (blk_cell BK311.out 1).trans rfl
       have hcz20_2 : wc.cell? ⟨gb311, 2, none⟩ = some (.int .i64 a0_2) := (blk_cell BK311.out 2).trans rfl
       have hcz20_3 : wc.cell? ⟨gb311, 3, none⟩ = some (.int .i64 a0_3) := (blk_cell BK311.out 3).trans rfl
       have hcz20_4 : wc.cell? ⟨gb311, 4, none⟩ = some (.int .i64 a0_4) := (blk_cell BK311.out 4).trans rfl
       have hcz20_5 : wc.cell? ⟨gb311, 5, none⟩ = some (.slice A0_5 l0_5.length c0_5) := (blk_cell BK311.out 5).trans rfl
       have hcz20_6 : wc.cell? ⟨gb311, 6, none⟩ = some (.slice A0_6 l0_6.length c0_6) := (blk_cell BK311.out 6).trans rfl
       have hfz20_0 := blk_frozen BK311.out 0
       have hfz20_1 := blk_frozen BK311.out 1
       have hfz20_2 := blk_frozen BK311.out 2
       have hfz20_3 := blk_frozen BK311.out 3
       have hfz20_4 := blk_frozen BK311.out 4
       have hfz20_5 := blk_frozen BK311.out 5
       have hfz20_6 := blk_frozen BK311.out 6
       go_wp2_with (first | (go_at_call 60; (with_reducible refine (frame_isDisplay.calls a0_2 false _ A17.out).mono ?_); rintro e w' ⟨rfl, ⟨nd, rfl⟩⟩))
       go_ret
       exact ⟨by first | rfl | (simp [errW_none, errW_some] <;> rfl) | (simp [*, errW_none, errW_some] <;> rfl), by repeat (first | (with_reducible first | exact HB.out | apply below_alloc | apply pw_below_drewN | apply below_drew1 | refine below_set ?_ GE311.out) | exact HB.out)⟩
     ·rw [if_neg c16] at H
      have c16b0 : (a0_1 == 0) = false := beq_eq_false_iff_ne.mpr c16
      have c16b1 : (a0_1 != 0) = true := bne_iff_ne.mpr c16
      obtain rfl := Option.some.inj H
      have hcz21_0 : wc.cell? ⟨gb311, 0, none⟩ = some (.int .i64 a0_0) := (blk_cell BK311.out 0).trans rfl
      have hcz21_1 : wc.cell? ⟨gb311, 1, none⟩ = some (.int .i64 a0_1) := (blk_cell BK311.out 1).trans rfl
      have hcz21_2 : wc.cell? ⟨gb311, 2, none⟩ = some (.int .i64 a0_2) := (blk_cell BK311.out 2).trans rfl
      have hcz21_3 : wc.cell? ⟨gb311, 3, none⟩ = some (.int .i64 a0_3) := (blk_cell BK311.out 3).trans rfl
      have hcz21_4 : wc.cell? ⟨gb311, 4, none⟩ = some (.int .i64 a0_4) := (blk_cell BK311.out 4).trans rfl
      have hcz21_5 : wc.cell? ⟨gb311, 5, none⟩ = some (.slice A0_5 l0_5.length c0_5) := (blk_cell BK311.out 5).trans rfl
      have hcz21_6 : wc.cell? ⟨gb311, 6, none⟩ = some (.slice A0_6 l0_6.length c0_6) := (blk_cell BK311.out 6).trans rfl
      have hfz21_0 := blk_frozen BK311.out 0
      have hfz21_1 := blk_frozen BK311.out 1
      have hfz21_2 := blk_frozen BK311.out 2
      have hfz21_3 := blk_frozen BK311.out 3
      have hfz21_4 := blk_frozen BK311.out 4
      have hfz21_5 := blk_frozen BK311.out 5
      have hfz21_6 := blk_frozen BK311.out 6
      go_wp2
      go_ret
      exact ⟨by first | rfl | (simp [errW_none, errW_some] <;> rfl) | (simp [*, errW_none, errW_some] <;> rfl), by repeat (first | (with_reducible first | exact HB.out | apply below_alloc | apply pw_below_drewN | apply below_drew1 | refine below_set ?_ GE311.out) | exact HB.out)⟩
    ·rw [if_neg c15] at H
     have c15b0 : (a0_0 == 2) = false := beq_eq_false_iff_ne.mpr c15
     have c15b1 : (a0_0 != 2) = true := bne_iff_ne.mpr c15
     by_cases c22 : a0_0 = 3
     ·rw [if_pos c22] at H
      have c22b0 : (a0_0 == 3) = true := beq_iff_eq.mpr c22
      have c22b1 : (a0_0 != 3) = false := bne_eq_false_iff_eq.mpr c22
      clear c22
      by_cases c23 : a0_1 = 0
      ·rw [if_pos c23] at H
       have c23b0 : (a0_1 == 0) = true := beq_iff_eq.mpr c23
       have c23b1 : (a0_1 != 0) = false := bne_eq_false_iff_eq.mpr c23
       clear c23
       replace H := Option.bind_eq_some_iff.mp H
       obtain ⟨t314, A240, H⟩ := H
       replace H : (if t314 = true then (some ((l0_5.length : Int) == 0)) else (some false)) = some r := H
       have A24 := Aside0.mk A240
       clear A240
       by_cases c25 : t314 = true
       ·subst c25
        have H1 : (some ((l0_5.length : Int) == 0)) = some r := by rw [if_pos rfl] at H; exact H
        clear H
        have H := H1
        clear H1
        obtain rfl := Option.some.inj H
        have hcz26_0 : wc.cell? ⟨gb311, 0, none⟩ = some (.int .i64 a0_0) := (blk_cell BK311.out 0).trans rfl
        have hcz26_1 : wc.cell? ⟨gb311, 1, none⟩ = some (.int .i64 a0_1) := (blk_cell BK311.out 1).trans rfl
        have hcz26_2 : wc.cell? ⟨gb311, 2, none⟩ = some (.int .i64 a0_2) := (blk_cell BK311.out 2).trans rfl
        have hcz26_3 : wc.cell? ⟨gb311, 3, none⟩ = some (.int .i64 a0_3) := (blk_cell BK311.out 3).trans rfl
        have hcz26_4 : wc.cell? ⟨gb311, 4, none⟩ = some (.int .i64 a0_4) := (blk_cell BK311.out 4).trans rfl
        have hcz26_5 : wc.cell? ⟨gb311, 5, none⟩ = some (.slice A0_5 l0_5.length c0_5) := (blk_cell BK311.out 5).trans rfl
        have hcz26_6 : wc.cell? ⟨gb311, 6, none⟩ = some (.slice A0_6 l0_6.length c0_6) := (blk_cell BK311.out 6).trans rfl
        have hfz26_0 := blk_frozen BK311.out 0
        have hfz26_1 := blk_frozen BK311.out 1
        have hfz26_2 := blk_frozen BK311.out 2
        have hfz26_3 := blk_frozen BK311.out 3
        have hfz26_4 := blk_frozen BK311.out 4
        have hfz26_5 := blk_frozen BK311.out 5
        have hfz26_6 := blk_frozen BK311.out 6
        go_wp2_with (first | (go_at_call 60; (with_reducible refine (frame_isDisplay.calls a0_2 true _ A24.out).mono ?_); rintro e w' ⟨rfl, ⟨nd, rfl⟩⟩))
        go_ret
        exact ⟨by first | rfl | (simp [errW_none, errW_some] <;> rfl) | (simp [*, errW_none, errW_some] <;> rfl), by repeat (first | (with_reducible first | exact HB.out | apply below_alloc | apply pw_below_drewN | apply below_drew1 | refine below_set ?_ GE311.out) | exact HB.out)⟩
       ·replace c25 := Bool.eq_false_iff.mpr c25
        subst c25
        have H1 : (some false) = some r := by rw [if_neg (show ¬ (false = true) by decide)] at H; exact H
        clear H
        have H := H1
        clear H1
        obtain rfl := Option.some.inj H
        have hcz27_0 : wc.cell? ⟨gb311, 0, none⟩ = some (.int .i64 a0_0) := (blk_cell BK311.out 0).trans rfl
        have hcz27_1 : wc.cell? ⟨gb311, 1, none⟩ = some (.int .i64 a0_1) := (blk_cell BK311.out 1).trans rfl
        have hcz27_2 : wc.cell? ⟨gb311, 2, none⟩ = some (.int .i64 a0_2) := (blk_cell BK311.out 2).trans rfl
        have hcz27_3 : wc.cell? ⟨gb311, 3, none⟩ = some (.int .i64 a0_3) := (blk_cell BK311.out 3).trans rfl
        have hcz27_4 : wc.cell? ⟨gb311, 4, none⟩ = some (.int .i64 a0_4) := (blk_cell BK311.out 4).trans rfl
        have hcz27_5 : wc.cell? ⟨gb311, 5, none⟩ = some (.slice A0_5 l0_5.length c0_5) := (blk_cell BK311.out 5).trans rfl
        have hcz27_6 : wc.cell? ⟨gb311, 6, none⟩ = some (.slice A0_6 l0_6.length c0_6) := (blk_cell BK311.out 6).trans rfl
        have hfz27_0 := blk_frozen BK311.out 0
        have hfz27_1 := blk_frozen BK311.out 1
        have hfz27_2 := blk_frozen BK311.out 2
        have hfz27_3 := blk_frozen BK311.out 3
        have hfz27_4 := blk_frozen BK311.out 4
        have hfz27_5 := blk_frozen BK311.out 5
        have hfz27_6 := blk_frozen BK311.out 6
        go_wp2_with (first | (go_at_call 60; (with_reducible refine (frame_isDisplay.calls a0_2 false _ A24.out).mono ?_); rintro e w' ⟨rfl, ⟨nd, rfl⟩⟩))
        go_ret
        exact ⟨by first | rfl | (simp [errW_none, errW_some] <;> rfl) | (simp [*, errW_none, errW_some] <;> rfl), by repeat (first | (with_reducible first | exact HB.out | apply below_alloc | apply pw_below_drewN | apply below_drew1 | refine below_set ?_ GE311.out) | exact HB.out)⟩
      ·rw [if_neg c23] at H
       have c23b0 : (a0_1 == 0) = false := beq_eq_false_iff_ne.mpr c23
       have c23b1 : (a0_1 != 0) = true := bne_iff_ne.mpr c23
       obtain rfl := Option.some.inj H
       have hcz28_0 : wc.cell? ⟨gb311, 0, none⟩ = some (.int .i64 a0_0) := (blk_cell BK311.out 0).trans rfl
       have hcz28_1 : wc.cell? ⟨gb311, 1, none⟩ = some (.int .i64 a0_1) := (blk_cell BK311.out 1).trans rfl
       have hcz28_2 : wc.cell? ⟨gb311, 2, none⟩ = some (.int .i64 a0_2) := (blk_cell BK311.out 2).trans rfl
       have hcz28_3 : wc.cell? ⟨gb311, 3, none⟩ = some (.int .i64 a0_3) := (blk_cell BK311.out 3).trans rfl
       have hcz28_4 : wc.cell? ⟨gb311, 4, none⟩ = some (.int .i64 a0_4) := (blk_cell BK311.out 4).trans rfl
       have hcz28_5 : wc.cell? ⟨gb311, 5, none⟩ = some (.slice A0_5 l0_5.length c0_5) := (blk_cell BK311.out 5).trans rfl
       have hcz28_6 : wc.cell? ⟨gb311, 6, none⟩ = some (.slice A0_6 l0_6.length c0_6) := (blk_cell BK311.out 6).trans rfl
       have hfz28_0 := blk_frozen BK311.out 0
       have hfz28_1 := blk_frozen BK311.out 1
       have hfz28_2 := blk_frozen BK311.out 2
       have hfz28_3 := blk_frozen BK311.out 3
       have hfz28_4 := blk_frozen BK311.out 4
       have hfz28_5 := blk_frozen BK311.out 5
       have hfz28_6 := blk_frozen BK311.out 6
       go_wp2
       go_ret
       exact ⟨by first | rfl | (simp [errW_none, errW_some] <;> rfl) | (simp [*, errW_none, errW_some] <;> rfl), by repeat (first | (with_reducible first | exact HB.out | apply below_alloc | apply pw_below_drewN | apply below_drew1 | refine below_set ?_ GE311.out) | exact HB.out)⟩
     ·rw [if_neg c22] at H
      have c22b0 : (a0_0 == 3) = false := beq_eq_false_iff_ne.mpr c22
      have c22b1 : (a0_0 != 3) = true := bne_iff_ne.mpr c22
      by_cases c29 : a0_0 = 4
      ·rw [if_pos c29] at H
       have c29b0 : (a0_0 == 4) = true := beq_iff_eq.mpr c29
       have c29b1 : (a0_0 != 4) = false := bne_eq_false_iff_eq.mpr c29
       clear c29
       by_cases c30 : a0_1 = 0
       ·rw [if_pos c30] at H
        have c30b0 : (a0_1 == 0) = true := beq_iff_eq.mpr c30
        have c30b1 : (a0_1 != 0) = false := bne_eq_false_iff_eq.mpr c30
        clear c30
        replace H := Option.bind_eq_some_iff.mp H
        obtain ⟨t315, A310, H⟩ := H
        replace H : (if t315 = true then (if (l0_5.length : Int) = 0 then (some ((l0_6.length : Int) == 0)) else (some false)) else (some false)) = some r := H
        have A31 := Aside0.mk A310
        clear A310
        by_cases c32 : t315 = true
        ·subst c32
         have H1 : (if (l0_5.length : Int) = 0 then (some ((l0_6.length : Int) == 0)) else (some false)) = some r := by rw [if_pos rfl] at H; exact H
         clear H
         have H := H1
         clear H1
         by_cases c33 : (l0_5.length : Int) = 0
         ·rw [if_pos c33] at H
          have c33b0 : ((l0_5.length : Int) == 0) = true := beq_iff_eq.mpr c33
          have c33b1 : ((l0_5.length : Int) != 0) = false := bne_eq_false_iff_eq.mpr c33
          clear c33
          obtain rfl := Option.some.inj H
          have hcz34_0 : wc.cell? ⟨gb311, 0, none⟩ = some (.int .i64 a0_0) := (blk_cell BK311.out 0).trans rfl
          have hcz34_1 : wc.cell? ⟨gb311, 1, none⟩ = some (.int .i64 a0_1) := (blk_cell BK311.out 1).trans rfl
          have hcz34_2 : wc.cell? ⟨gb311, 2, none⟩ = some (.int .i64 a0_2) := (blk_cell BK311.out 2).trans rfl
          have hcz34_3 : wc.cell? ⟨gb311, 3, none⟩ = some (.int .i64 a0_3) := (blk_cell BK311.out 3).trans rfl
          have hcz34_4 : wc.cell? ⟨gb311, 4, none⟩ = some (.int .i64 a0_4) := (blk_cell BK311.out 4).trans rfl
          have hcz34_5 : wc.cell? ⟨gb311, 5, none⟩ = some (.slice A0_5 l0_5.length c0_5) := (blk_cell BK311.out 5).trans rfl
          have hcz34_6 : wc.cell? ⟨gb311, 6, none⟩ = some (.slice A0_6 l0_6.length c0_6) := (blk_cell BK311.out 6).trans rfl
          have hfz34_0 := blk_frozen BK311.out 0
          have hfz34_1 := blk_frozen BK311.out 1
          have hfz34_2 := blk_frozen BK311.out 2
          have hfz34_3 := blk_frozen BK311.out 3
          have hfz34_4 := blk_frozen BK311.out 4
          have hfz34_5 := blk_frozen BK311.out 5
          have hfz34_6 := blk_frozen BK311.out 6
          go_wp2_with (first | (go_at_call 60; (with_reducible refine (frame_isDisplay.calls a0_2 true _ A31.out).mono ?_); rintro e w' ⟨rfl, ⟨nd, rfl⟩⟩))
          go_ret
          exact ⟨by first | rfl | (simp [errW_none, errW_some] <;> rfl) | (simp [*, errW_none, errW_some] <;> rfl), by repeat (first | (with_reducible first | exact HB.out | apply below_alloc | apply pw_below_drewN | apply below_drew1 | refine below_set ?_ GE311.out) | exact HB.out)⟩
         ·rw [if_neg c33] at H
          have c33b0 : ((l0_5.length : Int) == 0) = false := beq_eq_false_iff_ne.mpr c33
          have c33b1 : ((l0_5.length : Int) != 0) = true := bne_iff_ne.mpr c33
          have c33b2 : ¬ (l0_5 = []) := fun h_ => c33 (by rw [h_]; rfl)
          obtain rfl := Option.some.inj H
          have hcz35_0 : wc.cell? ⟨gb311, 0, none⟩ = some (.int .i64 a0_0) := (blk_cell BK311.out 0).trans rfl
          have hcz35_1 : wc.cell? ⟨gb311, 1, none⟩ = some (.int .i64 a0_1) := (blk_cell BK311.out 1).trans rfl
          have hcz35_2 : wc.cell? ⟨gb311, 2, none⟩ = some (.int .i64 a0_2) := (blk_cell BK311.out 2).trans rfl
          have hcz35_3 : wc.cell? ⟨gb311, 3, none⟩ = some (.int .i64 a0_3) := (blk_cell BK311.out 3).trans rfl
          have hcz35_4 : wc.cell? ⟨gb311, 4, none⟩ = some (.int .i64 a0_4) := (blk_cell BK311.out 4).trans rfl
          have hcz35_5 : wc.cell? ⟨gb311, 5, none⟩ = some (.slice A0_5 l0_5.length c0_5) := (blk_cell BK311.out 5).trans rfl
          have hcz35_6 : wc.cell? ⟨gb311, 6, none⟩ = some (.slice A0_6 l0_6.length c0_6) := (blk_cell BK311.out 6).trans rfl
          have hfz35_0 := blk_frozen BK311.out 0
          have hfz35_1 := blk_frozen BK311.out 1
          have hfz35_2 := blk_frozen BK311.out 2
          have hfz35_3 := blk_frozen BK311.out 3
          have hfz35_4 := blk_frozen BK311.out 4
          have hfz35_5 := blk_frozen BK311.out 5
          have hfz35_6 := blk_frozen BK311.out 6
          go_wp2_with (first | (go_at_call 60; (with_reducible refine (frame_isDisplay.calls a0_2 true _ A31.out).mono ?_); rintro e w' ⟨rfl, ⟨nd, rfl⟩⟩))
          go_ret
          exact ⟨by first | rfl | (simp [errW_none, errW_some] <;> rfl) | (simp [*, errW_none, errW_some] <;> rfl), by repeat (first | (with_reducible first | exact HB.out | apply below_alloc | apply pw_below_drewN | apply below_drew1 | refine below_set ?_ GE311.out) | exact HB.out)⟩
        ·replace c32 := Bool.eq_false_iff.mpr c32
         subst c32
         have H1 : (some false) = some r := by rw [if_neg (show ¬ (false = true) by decide)] at H; exact H
         clear H
         have H := H1
         clear H1
         obtain rfl := Option.some.inj H
         have hcz36_0 : wc.cell? ⟨gb311, 0, none⟩ = some (.int .i64 a0_0) := (blk_cell BK311.out 0).trans rfl
         have hcz36_1 : wc.cell? ⟨gb311, 1, none⟩ = some (.int .i64 a0_1) := (blk_cell BK311.out 1).trans rfl
         have hcz36_2 : wc.cell? ⟨gb311, 2, none⟩ = some (.int .i64 a0_2) := (blk_cell BK311.out 2).trans rfl
         have hcz36_3 : wc.cell? ⟨gb311, 3, none⟩ = some (.int .i64 a0_3) := (blk_cell BK311.out 3).trans rfl
         have hcz36_4 : wc.cell? ⟨gb311, 4, none⟩ = some (.int .i64 a0_4) := (blk_cell BK311.out 4).trans rfl
         have hcz36_5 : wc.cell? ⟨gb311, 5, none⟩ = some (.slice A0_5 l0_5.length c0_5) := (blk_cell BK311.out 5).trans rfl
         have hcz36_6 : wc.cell? ⟨gb311, 6, none⟩ = some (.slice A0_6 l0_6.length c0_6) := (blk_cell BK311.out 6).trans rfl
         have hfz36_0 := blk_frozen BK311.out 0
         have hfz36_1 := blk_frozen BK311.out 1
         have hfz36_2 := blk_frozen BK311.out 2
         have hfz36_3 := blk_frozen BK311.out 3
         have hfz36_4 := blk_frozen BK311.out 4
         have hfz36_5 := blk_frozen BK311.out 5
         have hfz36_6 := blk_frozen BK311.out 6
         go_wp2_with (first | (go_at_call 60; (with_reducible refine (frame_isDisplay.calls a0_2 false _ A31.out).mono ?_); rintro e w' ⟨rfl, ⟨nd, rfl⟩⟩))
         go_ret
         exact ⟨by first | rfl | (simp [errW_none, errW_some] <;> rfl) | (simp [*, errW_none, errW_some] <;> rfl), by repeat (first | (with_reducible first | exact HB.out | apply below_alloc | apply pw_below_drewN | apply below_drew1 | refine below_set ?_ GE311.out) | exact HB.out)⟩
       ·rw [if_neg c30] at H
        have c30b0 : (a0_1 == 0) = false := beq_eq_false_iff_ne.mpr c30
        have c30b1 : (a0_1 != 0) = true := bne_iff_ne.mpr c30
        obtain rfl := Option.some.inj H
        have hcz37_0 : wc.cell? ⟨gb311, 0, none⟩ = some (.int .i64 a0_0) := (blk_cell BK311.out 0).trans rfl
        have hcz37_1 : wc.cell? ⟨gb311, 1, none⟩ = some (.int .i64 a0_1) := (blk_cell BK311.out 1).trans rfl
        have hcz37_2 : wc.cell? ⟨gb311, 2, none⟩ = some (.int .i64 a0_2) := (blk_cell BK311.out 2).trans rfl
        have hcz37_3 : wc.cell? ⟨gb311, 3, none⟩ = some (.int .i64 a0_3) := (blk_cell BK311.out 3).trans rfl
        have hcz37_4 : wc.cell? ⟨gb311, 4, none⟩ = some (.int .i64 a0_4) := (blk_cell BK311.out 4).trans rfl
        have hcz37_5 : wc.cell? ⟨gb311, 5, none⟩ = some (.slice A0_5 l0_5.length c0_5) := (blk_cell BK311.out 5).trans rfl
        have hcz37_6 : wc.cell? ⟨gb311, 6, none⟩ = some (.slice A0_6 l0_6.length c0_6) := (blk_cell BK311.out 6).trans rfl
        have hfz37_0 := blk_frozen BK311.out 0
        have hfz37_1 := blk_frozen BK311.out 1
        have hfz37_2 := blk_frozen BK311.out 2
        have hfz37_3 := blk_frozen BK311.out 3
        have hfz37_4 := blk_frozen BK311.out 4
        have hfz37_5 := blk_frozen BK311.out 5
        have hfz37_6 := blk_frozen BK311.out 6
        go_wp2
        go_ret
        exact ⟨by first | rfl | (simp [errW_none, errW_some] <;> rfl) | (simp [*, errW_none, errW_some] <;> rfl), by repeat (first | (with_reducible first | exact HB.out | apply below_alloc | apply pw_below_drewN | apply below_drew1 | refine below_set ?_ GE311.out) | exact HB.out)⟩
      ·rw [if_neg c29] at H
       have c29b0 : (a0_0 == 4) = false := beq_eq_false_iff_ne.mpr c29
       have c29b1 : (a0_0 != 4) = true := bne_iff_ne.mpr c29
       obtain rfl := Option.some.inj H
       go_wp2
       go_ret
       exact ⟨by first | rfl | (simp [errW_none, errW_some] <;> rfl) | (simp [*, errW_none, errW_some] <;> rfl), by repeat (first | (with_reducible first | exact HB.out | apply below_alloc | apply pw_below_drewN | apply below_drew1 | refine below_set ?_ GE311.out) | exact HB.out)⟩
end Go.Proofs.YtfpopmojlmpopaaDoor.G

end
