/-
  Part 3 of the proof: words about memory and rows, functions of the program as Lean functions with the contracts that its code comes to just their answers, and plain lemmas; no conditions of its own.
-/
import Derived.Test.YtfpopmojlmpopaaDoorBMk1
import Derived.Test.YtfpopmojlmpopaaDoorBMk2
section
namespace Go.Proofs.YtfpopmojlmpopaaDoor.L
open Go.RowKit Go.Proofs.YtfpopmojlmpopaaDoorW.PrintWords Go.Proofs.YtfpopmojlmpopaaDoorW.PrintLast Go.Proofs.YtfpopmojlmpopaaDoorW.PrintMore Go.Proofs.YtfpopmojlmpopaaDoor.G Go.Proofs.YtfpopmojlmpopaaDoor.H
set_option linter.unusedVariables false
set_option linter.unusedSimpArgs false
def badB (s : ByteArray) (i : Nat) : Bool := decide (bt s i < 32) || decide (bt s i > 126)
def badFrom (s : ByteArray) : Nat → Nat → Bool
 | 0, _ => false
 | m + 1, i => badB s i || badFrom s m (i + 1)
def badC (s : ByteArray) : Bool := badFrom s s.size 0
def long (s : ByteArray) : Bool := decide ((s.size : Int) > 160)
def lineT (l : List ByteArray) : Int := if l.any badC = true then 2 else 0
def lineE (l : List ByteArray) : Int := if (l.length : Int) > 4096 then 6 else if l.any long = true then 6 else lineT l
theorem le_l2 (l : List ByteArray) (hl : l.length ≤ 4096) (i : Nat) (hi : i < l.length) (r : Int) (hsz : l[i].size ≤ 160) (hnext : Ev (fun k => frame_lineError.l1 k l l.length ((i + 1 : Nat) : Int)) r) :
  ∀ m j : Nat, j + m = l[i].size → Ev (fun k => frame_lineError.l2 k l[i] l l.length i l[i].size j) (if badFrom l[i] m j = true then 2 else r)
 | 0, j, h => Ev.step (fun k => by simp only [frame_lineError.l2]; rw [if_neg (by omega), w1 i (by omega)]) (by simpa [badFrom] using hnext)
 | m + 1, j, h => by
  by_cases c1 : bt l[i] j < 32
  ·have e : badFrom l[i] (m + 1) j = true := by simp [badFrom, badB, c1]
   rw [if_pos e]
   exact Ev.step (fun k => by simp only [frame_lineError.l2]; rw [if_pos (by omega), if_pos (by omega), if_pos (by omega), if_pos c1]) (Ev.now 2)
  ·by_cases c2 : bt l[i] j > 126
   ·have e : badFrom l[i] (m + 1) j = true := by simp [badFrom, badB, c2]
    rw [if_pos e]
    exact Ev.step (fun k => by simp only [frame_lineError.l2]; rw [if_pos (by omega), if_pos (by omega), if_pos (by omega), if_neg c1, if_pos c2]) (Ev.now 2)
   ·have e : badFrom l[i] (m + 1) j = badFrom l[i] m (j + 1) := by simp [badFrom, badB, c1, c2]
    rw [e]
    exact Ev.step (fun k => by simp only [frame_lineError.l2]; rw [if_pos (by omega), if_pos (by omega), if_pos (by omega), if_neg c1, if_neg c2, w1 j (by omega)]) (le_l2 l hl i hi r hsz hnext m (j + 1) (by omega))
theorem le_l1 (l : List ByteArray) (hl : l.length ≤ 4096) (hs : ∀ i (h : i < l.length), l[i].size ≤ 160) : ∀ m i : Nat, i + m = l.length → Ev (fun k => frame_lineError.l1 k l l.length i) (if (l.drop i).any badC = true then 2 else 0)
 | 0, i, h => by
  rw [drop_all l i (by omega)]
  exact Ev.step (fun k => by simp only [frame_lineError.l1]; rw [if_neg (by omega)]) (Ev.now 0)
 | m + 1, i, h => by
  have hi : i < l.length := by omega
  have hn := le_l2 l hl i hi _ (hs i hi) (le_l1 l hl hs m (i + 1) (by omega)) l[i].size 0 (by omega)
  have e : (if (l.drop i).any badC = true then (2 : Int) else 0) = if badFrom l[i] l[i].size 0 = true then 2 else if (l.drop (i + 1)).any badC = true then 2 else 0 := by
   rw [drop_at l i hi, List.any_cons]
   show (if (badFrom l[i] l[i].size 0 || _) = true then (2 : Int) else 0) = _
   cases badFrom l[i] l[i].size 0 <;> simp
  rw [e]
  exact Ev.step (fun k => by simp only [frame_lineError.l1]; rw [rdOf_nat _ l i hi, if_pos (by omega), if_pos (by omega), if_pos (by omega)]; rfl) hn
theorem le_l0 (l : List ByteArray) (hl : l.length ≤ 4096) : ∀ m i : Nat, i + m = l.length → (∀ j (h : j < l.length), j < i → l[j].size ≤ 160) → Ev (fun k => frame_lineError.l0 k l l l.length i) (if (l.drop i).any long = true then 6 else lineT l)
 | 0, i, h, hs => by
  rw [drop_all l i (by omega), if_neg (by decide)]
  have h1 := le_l1 l hl (fun i h => hs i h (by omega)) l.length 0 (by omega)
  rw [List.drop_zero] at h1
  exact Ev.step (fun k => by simp only [frame_lineError.l0]; rw [if_neg (by omega)]; rfl) h1
 | m + 1, i, h, hs => by
  have hi : i < l.length := by omega
  rw [drop_at l i hi, List.any_cons]
  by_cases hc : (l[i].size : Int) > 160
  ·rw [show long l[i] = true from decide_eq_true hc, Bool.true_or, if_pos rfl]
   exact Ev.step (fun k => by simp only [frame_lineError.l0]; rw [rdOf_nat _ l i hi, if_pos (by omega), if_pos (by omega), if_pos (by omega), if_pos hc]) (Ev.now 6)
  ·rw [show long l[i] = false from decide_eq_false hc, Bool.false_or]
   exact Ev.step (fun k => by simp only [frame_lineError.l0]; rw [rdOf_nat _ l i hi, if_pos (by omega), if_pos (by omega), if_pos (by omega), if_neg hc, w1 i (by omega)]) (le_l0 l hl m (i + 1) (by omega) (fun j h1 h2 => by
    rcases Nat.lt_or_ge j i with h3 | h3
    ·exact hs j h1 h3
    ·obtain rfl : j = i := by omega
     omega))
theorem lineError_ev (l : List ByteArray) : Ev (fun k => frame_lineError.f k l) (lineE l) := by
 unfold lineE
 by_cases hl : (l.length : Int) > 4096
 ·rw [if_pos hl]
  exact Ev.congr (fun k => by unfold frame_lineError.f; rw [if_pos hl]) (Ev.now 6)
 ·rw [if_neg hl]
  have h := le_l0 l (by omega) l.length 0 (by omega) (fun j _ h => by omega)
  rw [List.drop_zero] at h
  exact Ev.congr (fun k => by unfold frame_lineError.f; rw [if_neg hl]; rfl) h
theorem rl_l2 (l : List ByteArray) (hl : l.length ≤ 4096) (i : Nat) (hi : i < l.length) (r : Int) (hsz : l[i].size ≤ 160) (hnext : Ev (fun k => salchowref49_lines.l1 k l ((i + 1 : Nat) : Int)) r) :
  ∀ m j : Nat, j + m = l[i].size → Ev (fun k => salchowref49_lines.l2 k l i j) (if badFrom l[i] m j = true then 2 else r)
 | 0, j, h => Ev.step (fun k => by simp only [salchowref49_lines.l2]; rw [rdOf_nat _ l i hi, if_pos (by omega), if_pos (by omega), if_neg (by omega), w1 i (by omega)]) (by simpa [badFrom] using hnext)
 | m + 1, j, h => by
  by_cases c1 : bt l[i] j < 32
  ·have e : badFrom l[i] (m + 1) j = true := by simp [badFrom, badB, c1]
   rw [if_pos e]
   exact Ev.step (fun k => by simp only [salchowref49_lines.l2]; rw [rdOf_nat _ l i hi, if_pos (by omega), if_pos (by omega), if_pos (by omega), if_pos (by omega), if_pos c1]) (Ev.now 2)
  ·by_cases c2 : bt l[i] j > 126
   ·have e : badFrom l[i] (m + 1) j = true := by simp [badFrom, badB, c2]
    rw [if_pos e]
    exact Ev.step (fun k => by simp only [salchowref49_lines.l2]; rw [rdOf_nat _ l i hi, if_pos (by omega), if_pos (by omega), if_pos (by omega), if_pos (by omega), if_neg c1, if_pos c2]) (Ev.now 2)
   ·have e : badFrom l[i] (m + 1) j = badFrom l[i] m (j + 1) := by simp [badFrom, badB, c1, c2]
    rw [e]
    exact Ev.step (fun k => by simp only [salchowref49_lines.l2]; rw [rdOf_nat _ l i hi, if_pos (by omega), if_pos (by omega), if_pos (by omega), if_pos (by omega), if_neg c1, if_neg c2, w1 j (by omega)]) (rl_l2 l hl i hi r hsz hnext m (j + 1) (by omega))
theorem rl_l1 (l : List ByteArray) (hl : l.length ≤ 4096) (hs : ∀ i (h : i < l.length), l[i].size ≤ 160) : ∀ m i : Nat, i + m = l.length → Ev (fun k => salchowref49_lines.l1 k l i) (if (l.drop i).any badC = true then 2 else 0)
 | 0, i, h => by
  rw [drop_all l i (by omega)]
  exact Ev.step (fun k => by simp only [salchowref49_lines.l1]; rw [if_neg (by omega)]) (Ev.now 0)
 | m + 1, i, h => by
  have hi : i < l.length := by omega
  have hn := rl_l2 l hl i hi _ (hs i hi) (rl_l1 l hl hs m (i + 1) (by omega)) l[i].size 0 (by omega)
  have e : (if (l.drop i).any badC = true then (2 : Int) else 0) = if badFrom l[i] l[i].size 0 = true then 2 else if (l.drop (i + 1)).any badC = true then 2 else 0 := by
   rw [drop_at l i hi, List.any_cons]
   show (if (badFrom l[i] l[i].size 0 || _) = true then (2 : Int) else 0) = _
   cases badFrom l[i] l[i].size 0 <;> simp
  rw [e]
  exact Ev.step (fun k => by simp only [salchowref49_lines.l1]; rw [if_pos (by omega)]; rfl) hn
theorem rl_l0 (l : List ByteArray) (hl : l.length ≤ 4096) : ∀ m i : Nat, i + m = l.length → (∀ j (h : j < l.length), j < i → l[j].size ≤ 160) → Ev (fun k => salchowref49_lines.l0 k l i) (if (l.drop i).any long = true then 6 else lineT l)
 | 0, i, h, hs => by
  rw [drop_all l i (by omega), if_neg (by decide)]
  have h1 := rl_l1 l hl (fun i h => hs i h (by omega)) l.length 0 (by omega)
  rw [List.drop_zero] at h1
  exact Ev.step (fun k => by simp only [salchowref49_lines.l0]; rw [if_neg (by omega)]; rfl) h1
 | m + 1, i, h, hs => by
  have hi : i < l.length := by omega
  rw [drop_at l i hi, List.any_cons]
  by_cases hc : (l[i].size : Int) > 160
  ·rw [show long l[i] = true from decide_eq_true hc, Bool.true_or, if_pos rfl]
   exact Ev.step (fun k => by simp only [salchowref49_lines.l0]; rw [rdOf_nat _ l i hi, if_pos (by omega), if_pos (by omega), if_pos hc]) (Ev.now 6)
  ·rw [show long l[i] = false from decide_eq_false hc, Bool.false_or]
   exact Ev.step (fun k => by simp only [salchowref49_lines.l0]; rw [rdOf_nat _ l i hi, if_pos (by omega), if_pos (by omega), if_neg hc, w1 i (by omega)]) (rl_l0 l hl m (i + 1) (by omega) (fun j h1 h2 => by
    rcases Nat.lt_or_ge j i with h3 | h3
    ·exact hs j h1 h3
    ·obtain rfl : j = i := by omega
     omega))
theorem rlines_ev (l : List ByteArray) : Ev (fun k => salchowref49_lines.f k l) (lineE l) := by
 unfold lineE
 by_cases hl : (l.length : Int) > 4096
 ·rw [if_pos hl]
  exact Ev.congr (fun k => by unfold salchowref49_lines.f; rw [if_pos hl]) (Ev.now 6)
 ·rw [if_neg hl]
  have h := rl_l0 l (by omega) l.length 0 (by omega) (fun j _ h => by omega)
  rw [List.drop_zero] at h
  exact Ev.congr (fun k => by unfold salchowref49_lines.f; rw [if_neg hl]; rfl) h
theorem rLines_ev (l : List ByteArray) : Ev (fun k => salchowref49_Lines.f k l) (lineE l == 0) := by
 unfold salchowref49_Lines.f
 exact Ev.bind (rlines_ev l) (Ev.now _)
def okE (x : S52) : Bool := decide (0 ≤ x.f0) && decide (0 ≤ x.f1) && decide (x.f1 ≤ 4096) && !(x.f1 == 0 && x.f2.length == 0) && lineE x.f2 == 0
def nextOk (p : Option S52) (x : S52) : Bool := match p with
 | none => true
 | some p => !decide (wrap64 (x.f0 - p.f1) ≤ p.f0)
def posFrom : Option S52 → List S52 → Bool
 | _, [] => true
 | p, x :: r => okE x && nextOk p x && posFrom (some x) r
def posE (es : List S52) : Bool := decide (es.length ≤ 4096) && posFrom none es
def prevOf (es : List S52) (i : Nat) : Option S52 := if i = 0 then none else es[i - 1]?
theorem wm (i : Nat) (h : 0 < i) (h2 : i < 9223372036854775807) : wrap64 ((i : Int) - 1) = ((i - 1 : Nat) : Int) := by unfold wrap64; omega
theorem prev_next (es : List S52) (i : Nat) (h : i < es.length) : prevOf es (i + 1) = some es[i] := by simp [prevOf, h]
theorem fp_j1 (es : List S52) (hl : es.length ≤ 4096) (i : Nat) (hi : i < es.length) (r : Bool) (hnext : Ev (fun k => frame_possible.l0 k es es es.length ((i + 1 : Nat) : Int)) r) (b : Bool) :
  Ev (fun k => frame_possible.j1 k es i es es.length i b es[i].f0 es[i].f1 es[i].f2) (!b && (nextOk (prevOf es i) es[i] && r)) := by
 cases b with
 | true => exact Ev.step (fun k => by simp only [frame_possible.j1]; rw [if_pos trivial]) (Ev.now false)
 | false =>
  rw [Bool.not_false, Bool.true_and]
  rcases Nat.eq_zero_or_pos i with h0 | h0
  ·have e : nextOk (prevOf es i) es[i] = true := by simp [prevOf, h0, nextOk]
   rw [e, Bool.true_and]
   exact Ev.step (fun k => by simp only [frame_possible.j1]; rw [if_neg (by decide), if_neg (by omega), w1 i (by omega)]) hnext
  ·have e : prevOf es i = some es[i - 1] := by
    have := prev_next es (i - 1) (by omega)
    rwa [Nat.sub_add_cancel h0] at this
   rw [e]
   by_cases c : wrap64 (es[i].f0 - es[i - 1].f1) ≤ es[i - 1].f0
   ·have e2 : nextOk (some es[i - 1]) es[i] = false := by simp [nextOk, c]
    rw [e2, Bool.false_and]
    exact Ev.step (fun k => by simp only [frame_possible.j1]; rw [if_neg (by decide), if_pos (by omega), wm i h0 (by omega), rdT_nat es (i - 1) (by omega), if_pos (by omega), if_pos (by omega), if_pos c]) (Ev.now false)
   ·have e2 : nextOk (some es[i - 1]) es[i] = true := by simp [nextOk, c]
    rw [e2, Bool.true_and]
    exact Ev.step (fun k => by simp only [frame_possible.j1]; rw [if_neg (by decide), if_pos (by omega), wm i h0 (by omega), rdT_nat es (i - 1) (by omega), if_pos (by omega), if_pos (by omega), if_neg c, w1 i (by omega)]) hnext
theorem fp_l0 (es : List S52) (hl : es.length ≤ 4096) : ∀ m i : Nat, i + m = es.length → Ev (fun k => frame_possible.l0 k es es es.length i) (posFrom (prevOf es i) (es.drop i))
 | 0, i, h => by
  rw [drop_all es i (by omega)]
  exact Ev.step (fun k => by simp only [frame_possible.l0]; rw [if_neg (by omega)]) (Ev.now true)
 | m + 1, i, h => by
  have hi : i < es.length := by omega
  have hn := fp_l0 es hl m (i + 1) (by omega)
  rw [prev_next es i hi] at hn
  rw [drop_at es i hi, posFrom]
  have J := fp_j1 es hl i hi _ hn
  by_cases c1 : es[i].f0 < 0
  ·have e : okE es[i] = false := by simp [okE, show ¬ 0 ≤ es[i].f0 from by omega]
   rw [e]
   exact Ev.step (fun k => by simp only [frame_possible.l0]; rw [rdT_nat es i hi, if_pos (by omega), if_pos (by omega), if_pos (by omega), if_pos c1]) (J true)
  by_cases c2 : es[i].f1 < 0
  ·have e : okE es[i] = false := by simp [okE, show ¬ 0 ≤ es[i].f1 from by omega]
   rw [e]
   exact Ev.step (fun k => by simp only [frame_possible.l0]; rw [rdT_nat es i hi, if_pos (by omega), if_pos (by omega), if_pos (by omega), if_neg c1, if_pos c2]) (J true)
  by_cases c3 : es[i].f1 > 4096
  ·have e : okE es[i] = false := by simp [okE, show ¬ es[i].f1 ≤ 4096 from by omega]
   rw [e]
   exact Ev.step (fun k => by simp only [frame_possible.l0]; rw [rdT_nat es i hi, if_pos (by omega), if_pos (by omega), if_pos (by omega), if_neg c1, if_neg c2, if_pos c3]) (J true)
  have hb : ∀ t : Int, (!(t != 0)) = (t == 0) := fun t => by cases h : (t == 0) <;> simp_all [bne]
  by_cases c4 : es[i].f1 = 0
  ·by_cases c5 : (es[i].f2.length : Int) = 0
   ·have e : okE es[i] = false := by simp [okE, c4, show es[i].f2.length = 0 from by omega]
    rw [e]
    exact Ev.step (fun k => by simp only [frame_possible.l0]; rw [rdT_nat es i hi, if_pos (by omega), if_pos (by omega), if_pos (by omega), if_neg c1, if_neg c2, if_neg c3, if_pos c4, if_pos c5]) (J true)
   ·have e : okE es[i] = (lineE es[i].f2 == 0) := by simp [okE, show 0 ≤ es[i].f0 from by omega, show 0 ≤ es[i].f1 from by omega, show es[i].f1 ≤ 4096 from by omega, show ¬ es[i].f2.length = 0 from by omega]
    rw [e, ← hb, Bool.and_assoc]
    exact Ev.step (fun k => by simp only [frame_possible.l0]; rw [rdT_nat es i hi, if_pos (by omega), if_pos (by omega), if_pos (by omega), if_neg c1, if_neg c2, if_neg c3, if_pos c4, if_neg c5]) (Ev.bind (lineError_ev _) (J _))
  ·have e : okE es[i] = (lineE es[i].f2 == 0) := by simp [okE, show 0 ≤ es[i].f0 from by omega, show 0 ≤ es[i].f1 from by omega, show es[i].f1 ≤ 4096 from by omega, c4]
   rw [e, ← hb, Bool.and_assoc]
   exact Ev.step (fun k => by simp only [frame_possible.l0]; rw [rdT_nat es i hi, if_pos (by omega), if_pos (by omega), if_pos (by omega), if_neg c1, if_neg c2, if_neg c3, if_neg c4]) (Ev.bind (lineError_ev _) (J _))
theorem possible_ev (es : List S52) : Ev (fun k => frame_possible.f k es) (posE es) := by
 unfold posE
 by_cases hl : (es.length : Int) > 4096
 ·rw [decide_eq_false (show ¬ es.length ≤ 4096 from by omega), Bool.false_and]
  exact Ev.congr (fun k => by unfold frame_possible.f; rw [if_pos hl]) (Ev.now false)
 ·rw [decide_eq_true (show es.length ≤ 4096 from by omega), Bool.true_and]
  have h := fp_l0 es (by omega) es.length 0 (by omega)
  rw [List.drop_zero] at h
  exact Ev.congr (fun k => by unfold frame_possible.f; rw [if_neg hl]; rfl) h
end Go.Proofs.YtfpopmojlmpopaaDoor.L

end
section
namespace Go.Proofs.YtfpopmojlmpopaaDoor.G
open Go.RowKit Go.Proofs.YtfpopmojlmpopaaDoorW.PrintWords Go.Proofs.YtfpopmojlmpopaaDoorW.PrintLast Go.Proofs.YtfpopmojlmpopaaDoorW.PrintMore
attribute [local go_sem] max2_int min2_int max_two min_two max_three min_three max_four min_four
set_option linter.unusedVariables false
set_option linter.unusedSimpArgs false
mutual
def frame_Apply.j0 : Nat → List ByteArray → List (S52) → Bool → Option (List ByteArray × Int)
 | 0, _, _, _ => none
 | k + 1, x0, x1, x18 => if x18 = true then (some (([] : List ByteArray), 1)) else (if (x1.length : Int) > 0 then (if 0 ≤ (wrap64 ((x1.length : Int) - 1)) then (if (wrap64 ((x1.length : Int) - 1)) < (x1.length : Int) then (frame_Apply.j1 k x0 x1 (decide (((rd_T52 x1 (wrap64 ((x1.length : Int) - 1))).f0) > (wrap64 ((x0.length : Int) - ((rd_T52 x1 (wrap64 ((x1.length : Int) - 1))).f1)))))) else (none)) else (none)) else (frame_Apply.j1 k x0 x1 false))
def frame_Apply.j1 : Nat → List ByteArray → List (S52) → Bool → Option (List ByteArray × Int)
 | 0, _, _, _ => none
 | k + 1, x0, x1, x40 => if x40 = true then (some (([] : List ByteArray), 5)) else (frame_Apply.l0 k x0 ([] : List ByteArray) 0 x1 (x1.length : Int) 0)
def frame_Apply.l0 : Nat → List ByteArray → List ByteArray → Int → List (S52) → Int → Int → Option (List ByteArray × Int)
 | 0, _, _, _, _, _, _ => none
 | k + 1, x0, x7, x8, x41, x42, x43 => if x43 < x42 then (if 0 ≤ x43 then (if x43 < (x41.length : Int) then (if 0 ≤ x8 then (if x8 ≤ ((rd_T52 x41 x43).f0) then (if ((rd_T52 x41 x43).f0) ≤ (x0.length : Int) then (if x7.length + ((x0.take (((rd_T52 x41 x43).f0) : Int).toNat).drop (x8 : Int).toNat).length < 8796093022208 then ((some (x7 ++ ((x0.take (((rd_T52 x41 x43).f0) : Int).toNat).drop (x8 : Int).toNat) : List ByteArray)).bind fun y173 => (if y173.length + ((rd_T52 x41 x43).f2).length < 8796093022208 then (frame_Apply.l0 k x0 (y173 ++ ((rd_T52 x41 x43).f2)) (wrap64 (((rd_T52 x41 x43).f0) + ((rd_T52 x41 x43).f1))) x41 x42 (wrap64 (x43 + 1))) else (none))) else (none)) else (none)) else (none)) else (none)) else (none)) else (none)) else (if 0 ≤ x8 then (if x8 ≤ (x0.length : Int) then (if x7.length + (x0.drop (x8 : Int).toNat).length < 8796093022208 then ((some (x7 ++ (x0.drop (x8 : Int).toNat) : List ByteArray)).bind fun y180 => (if (y180.length : Int) > 4096 then (some (([] : List ByteArray), 6)) else (some (y180, 0)))) else (none)) else (none)) else (none))
end
def frame_Apply.f (k : Nat) (l0 : List ByteArray) (l1 : List (S52)) : Option (List ByteArray × Int) := (frame_lineError.f k l0).bind fun t166 => (if t166 = 0 then ((frame_possible.f k l1).bind fun t167 => (frame_Apply.j0 k l0 l1 (!t167))) else (frame_Apply.j0 k l0 l1 true))
def frame_Apply.T4 : Bool × List (List Nat × List Nat) := (true, [([], []), ([0], [0]), ([1], [1]), ([2], [2]), ([2], [2]), ([4, 2], [2, 4]), ([3, 5, 2], [2, 3, 5]), ([6, 2], [2, 6]), ([7, 2], [2, 7]), ([2], [2]), ([9, 2], [2, 9]), ([2], [2]), ([2], [2]), ([12, 2], [2, 12]), ([11, 13, 2], [2, 11, 13]), ([14, 2], [2, 14]), ([15, 2], [2, 15]), ([10, 16, 2], [2, 10, 16]), ([8, 17, 2], [2, 8, 17]), ([2, 18], [2, 18])])
def frame_Apply.B4 : List Nat := [0, 1, 3, 7, 7, 23, 63, 127, 255, 7, 519, 7, 7, 4103, 14343, 30727, 63495, 130567, 262143, 524287]
theorem frame_Apply.tab4 : rtab .any (opsOf Tryd.f17 4) = frame_Apply.T4 := by kernel_rfl
theorem frame_Apply.bits4 : waitsOk frame_Apply.T4.2 frame_Apply.B4 = true := by kernel_rfl
def frame_Apply.T11 : Bool × List (List Nat × List Nat) := (true, [([], []), ([], []), ([], []), ([], []), ([3], [3]), ([1, 2, 4], [1, 2, 4]), ([0, 5], [0, 5]), ([], []), ([7], [7]), ([6, 8, 6], [6, 8]), ([9, 9, 0, 1, 2, 3, 4, 5, 6, 7, 8, 9], [0, 9])])
def frame_Apply.B11 : List Nat := [0, 0, 0, 0, 8, 30, 63, 0, 128, 511, 1023]
theorem frame_Apply.tab11 : rtab .any (opsOf Tryd.f17 11) = frame_Apply.T11 := by kernel_rfl
theorem frame_Apply.bits11 : waitsOk frame_Apply.T11.2 frame_Apply.B11 = true := by kernel_rfl
set_option maxHeartbeats 8000000 in
set_option maxRecDepth 100000 in
theorem frame_Apply.calls (k : Nat) (A0 : Option Addr) (c0 : Nat) (l0 : List ByteArray) (A1 : Option Addr) (c1 : Nat) (l1 : List (S52)) (r1 : List ByteArray) (r2 : Int) (w : World) (hr0 : Kd.C Kd.string w A0 l0.length l0) (hc0 : l0.length ≤ c0) (hr1 : Kd.C k52 w A1 l1.length l1) (hc1 : l1.length ≤ c1) (h : frame_Apply.f k l0 l1 = some (r1, r2)) :
  Calls Tryd.prog 17 #[.slice A0 l0.length c0, .slice A1 l1.length c1] w fun e w' => ∃ v0_ : Value, e = .returned (.tuple #[v0_, .int .i64 r2]) ∧ Kd.R Kd.string 9 w' w.heap.size (fun _ => True) v0_ r1 ∧ Below w.heap.size w w' := by
 have hu52 := Tryd.underlying52
 have HR0 := Aside0.mk hr0
 have HC0 := Aside0.mk hc0
 clear hr0 hc0
 have HR1 := Aside0.mk hr1
 have HC1 := Aside0.mk hc1
 clear hr1 hc1
 have HB := Aside0.mk (Below.refl w.heap.size w)
 have H : ((frame_lineError.f k l0).bind fun t166 => (if t166 = 0 then ((frame_possible.f k l1).bind fun t167 => (frame_Apply.j0 k l0 l1 (!t167))) else (frame_Apply.j0 k l0 l1 true))) = some (r1, r2) := h
 clear h
 have HC3 := Aside0.mk H
 clear H
 go_enter Tryd.func17, Tryd.ntmps17
 go_upto_region 1 with (fail)
 go_cut [18] (fun v18 wc => ∃ (kq : Nat) (x18_2 : Bool), v18 = .bool x18_2 ∧ Aside0 (frame_Apply.j0 kq l0 l1 x18_2 = some (r1, r2)) ∧ Aside0 (kq ≤ k) ∧ Aside0 (Below w.heap.size w wc))
 case first =>
  have H := HC3.out
  clear HC3
  replace H := Option.bind_eq_some_iff.mp H
  obtain ⟨t166, A40, H⟩ := H
  replace H : (if t166 = 0 then ((frame_possible.f k l1).bind fun t167 => (frame_Apply.j0 k l0 l1 (!t167))) else (frame_Apply.j0 k l0 l1 true)) = some (r1, r2) := H
  have A4 := Aside0.mk A40
  clear A40
  by_cases c5 : t166 = 0
  ·rw [if_pos c5] at H
   have c5b0 : (t166 == 0) = true := beq_iff_eq.mpr c5
   have c5b1 : (t166 != 0) = false := bne_eq_false_iff_eq.mpr c5
   clear c5
   (first | rw [c5b0] | (simp only [i64_w, i32_w]; rw [c5b0]) | skip)
   replace H := Option.bind_eq_some_iff.mp H
   obtain ⟨t167, A60, H⟩ := H
   replace H : (frame_Apply.j0 k l0 l1 (!t167)) = some (r1, r2) := H
   have A6 := Aside0.mk A60
   clear A60
   have H' := Aside0.mk H
   clear H
   go_wp2_with (first | ((with_reducible refine gate_callee (f := 43) rfl ?_); refine goesL_ (some 12) rfl rfl Tryd.func43 (by kernel_rfl) rfl #[.slice A0 l0.length c0] rfl (by (try simp only [List.map_toArray, List.map_cons, List.map_nil]); first | done | rfl | (simp only [List.length_drop, List.length_take]; rfl)) ?_; (with_reducible refine (frame_lineError.calls k _ _ l0 t166 _ ?side1 ?side2 A4.out).mono ?_); (case side1 => repeat (first | exact (Kd.C_below HR0.out HB.out) | (with_reducible refine Kd.C_alloc ?_ _) | (with_reducible refine Kd.C_drewN ?_ _) | (with_reducible refine Kd.C_drew ?_))); (case side2 => exact HC0.out); rintro e w' ⟨rfl, ⟨nd, rfl⟩⟩; refine ⟨_, rfl, ?_⟩) | (go_at_call 44; (with_reducible refine (frame_possible.calls k _ _ l1 t167 _ ?side1 ?side2 A6.out).mono ?_); (case side1 => repeat (first | exact (Kd.C_below HR1.out (by repeat (first | (with_reducible first | exact HB.out | apply below_alloc | apply pw_below_drewN | apply below_drew1) | exact HB.out))) | (with_reducible refine Kd.C_alloc ?_ _) | (with_reducible refine Kd.C_drewN ?_ _) | (with_reducible refine Kd.C_drew ?_))); (case side2 => exact HC1.out); rintro e w7 ⟨rfl, hb⟩; have n0_ := Aside0.mk (below_step (by repeat (first | (with_reducible first | exact HB.out | apply below_alloc | apply pw_below_drewN | apply below_drew1) | exact HB.out)) hb); clear HB; have HB := n0_; clear n0_; (try clear hb); (try clear hb2); (try clear hk); (try clear hi)))
   go_meet
   case rel => exact ⟨_, (!t167), (by first | rfl | (simp; done) | (simp [*]; done)), H', ⟨by first | omega | exact Nat.le_refl _⟩, ⟨by repeat (first | (with_reducible first | exact HB.out | apply below_alloc | apply pw_below_drewN | apply below_drew1) | exact HB.out)⟩⟩
  ·rw [if_neg c5] at H
   have c5b0 : (t166 == 0) = false := beq_eq_false_iff_ne.mpr c5
   have c5b1 : (t166 != 0) = true := bne_iff_ne.mpr c5
   (first | rw [c5b0] | (simp only [i64_w, i32_w]; rw [c5b0]) | skip)
   have H' := Aside0.mk H
   clear H
   go_wp2_with (first | ((with_reducible refine gate_callee (f := 43) rfl ?_); refine goesL_ (some 12) rfl rfl Tryd.func43 (by kernel_rfl) rfl #[.slice A0 l0.length c0] rfl (by (try simp only [List.map_toArray, List.map_cons, List.map_nil]); first | done | rfl | (simp only [List.length_drop, List.length_take]; rfl)) ?_; (with_reducible refine (frame_lineError.calls k _ _ l0 t166 _ ?side1 ?side2 A4.out).mono ?_); (case side1 => repeat (first | exact (Kd.C_below HR0.out HB.out) | (with_reducible refine Kd.C_alloc ?_ _) | (with_reducible refine Kd.C_drewN ?_ _) | (with_reducible refine Kd.C_drew ?_))); (case side2 => exact HC0.out); rintro e w' ⟨rfl, ⟨nd, rfl⟩⟩; refine ⟨_, rfl, ?_⟩))
   go_meet
   case rel => exact ⟨_, (true), (by first | rfl | (simp; done) | (simp [*]; done)), H', ⟨by first | omega | exact Nat.le_refl _⟩, ⟨by repeat (first | (with_reducible first | exact HB.out | apply below_alloc | apply pw_below_drewN | apply below_drew1) | exact HB.out)⟩⟩
 case rest =>
  clear HC3
  try clear c1
  try clear p2
  try clear c4
  try clear c5
  try clear c5b0
  try clear c5b1
  obtain ⟨kq, x18_2, rfl, HA, HJ2, HB⟩ := hcut
  cases kq with
  | zero => exact absurd HA.out (by simp [frame_Apply.j0])
  | succ kj2 =>
   have H := HA.out
   clear HA
   simp only [frame_Apply.j0] at H
   by_cases c8 : x18_2 = true
   ·subst c8
    have H1 : (some (([] : List ByteArray), 1)) = some (r1, r2) := by rw [if_pos rfl] at H; exact H
    clear H
    have H := H1
    clear H1
    simp only [Option.some.injEq, Prod.mk.injEq] at H
    obtain ⟨rfl, rfl⟩ := H
    go_wp2
    go_ret2
    exact ⟨_, by first | rfl | (simp [errW_none, errW_some] <;> rfl) | (simp [*, errW_none, errW_some] <;> rfl), by first | exact Kd.R_nil _ _ _ _ _ | exact Kd.N_nil _ _ _ _ _ | exact Kd.V_nil _ _ _ _ _ | exact Kd.Q_nil _ _ _ _ _ | exact Kd.S_nil _ _ _ _ _, by repeat (first | (with_reducible first | exact HB.out | apply below_alloc | apply pw_below_drewN | apply below_drew1) | exact HB.out)⟩
   ·replace c8 := Bool.eq_false_iff.mpr c8
    subst c8
    have H1 : (if (l1.length : Int) > 0 then (if 0 ≤ (wrap64 ((l1.length : Int) - 1)) then (if (wrap64 ((l1.length : Int) - 1)) < (l1.length : Int) then (frame_Apply.j1 kj2 l0 l1 (decide (((rd_T52 l1 (wrap64 ((l1.length : Int) - 1))).f0) > (wrap64 ((l0.length : Int) - ((rd_T52 l1 (wrap64 ((l1.length : Int) - 1))).f1)))))) else (none)) else (none)) else (frame_Apply.j1 kj2 l0 l1 false)) = some (r1, r2) := by rw [if_neg (show ¬ (false = true) by decide)] at H; exact H
    clear H
    have H := H1
    clear H1
    have HC9 := Aside0.mk H
    clear H
    go_upto_region 4 with (fail)
    go_cut [40] (fun v40 wc => ∃ (kq : Nat) (x40_8 : Bool), v40 = .bool x40_8 ∧ Aside0 (frame_Apply.j1 kq l0 l1 x40_8 = some (r1, r2)) ∧ Aside0 (kq ≤ kj2) ∧ Aside0 (Below w.heap.size w wc))
    case first =>
     have H := HC9.out
     clear HC9
     by_cases c10 : (l1.length : Int) > 0
     ·rw [if_pos c10] at H
      have c10b0 : decide (0 < (l1.length : Int)) = true := decide_eq_true c10
      have c10b1 : decide (0 < l1.length) = true := decide_eq_true (by omega)
      clear c10
      (first | rw [c10b0] | (simp only [i64_w, i32_w]; rw [c10b0]) | skip)
      obtain ⟨ji11, hji11⟩ : ∃ j_ : Int, (wrap64 ((l1.length : Int) - 1)) = j_ := ⟨_, rfl⟩
      replace H : (if 0 ≤ (ji11) then (if (ji11) < (l1.length : Int) then (frame_Apply.j1 kj2 l0 l1 (decide (((rd_T52 l1 (ji11)).f0) > (wrap64 ((l0.length : Int) - ((rd_T52 l1 (ji11)).f1)))))) else (none)) else (none)) = some (r1, r2) := by first | (rw [hji11] at H; exact H) | (simp only [hji11] at H ⊢; exact H)
      have hji11w : (IntKind.i64.wrap ((l1.length : Int) - 1)) = ji11 := (i64_w _).trans hji11
      by_cases c12 : 0 ≤ (ji11)
      ·rw [if_pos c12] at H
       have c12b0 : decide (0 ≤ (ji11)) = true := decide_eq_true c12
       clear c12
       by_cases c13 : (ji11) < (l1.length : Int)
       ·rw [if_pos c13] at H
        have c13b0 : decide ((ji11) < (l1.length : Int)) = true := decide_eq_true c13
        clear c13
        have H' := Aside0.mk H
        clear H
        try go_wp2
        have n0_ := Aside0.mk (below_drew1 HB.out)
        clear HB
        have HB := n0_
        clear n0_
        have p168 : 0 ≤ ((ji11) : Int) := of_decide_eq_true (by first | (with_reducible assumption) | assumption)
        have q168 : (ji11) < (l1.length : Int) := of_decide_eq_true (by first | (with_reducible assumption) | assumption)
        obtain ⟨ad168, A168_2, c168_2, e168, hx168_0, hx168_1, hx168_2, hl168_2, hi168_2⟩ := at_T52 HR1.out (ji11) p168 q168
        have hw168_2 := hx168_2
        have hw168_1 := hx168_1
        have hw168_0 := hx168_0
        cases e168
        replace hx168_0 := (HB.out.cell (World.block_lt_of_cell? w _ hx168_0)).trans hx168_0
        replace hx168_1 := (HB.out.cell (World.block_lt_of_cell? w _ hx168_1)).trans hx168_1
        replace hx168_2 := (HB.out.cell (World.block_lt_of_cell? w _ hx168_2)).trans hx168_2
        have HR168_2 := Aside0.mk hi168_2
        have HC168_2 := Aside0.mk hl168_2
        clear hi168_2 hl168_2
        replace p168 := eq_true p168
        replace q168 := eq_true q168
        have p169 : 0 ≤ ((ji11) : Int) := of_decide_eq_true (by first | (with_reducible assumption) | assumption)
        have q169 : (ji11) < (l1.length : Int) := of_decide_eq_true (by first | (with_reducible assumption) | assumption)
        obtain ⟨ad169, A169_2, c169_2, e169, hx169_0, hx169_1, hx169_2, hl169_2, hi169_2⟩ := at_T52 HR1.out (ji11) p169 q169
        have hw169_2 := hx169_2
        have hw169_1 := hx169_1
        have hw169_0 := hx169_0
        obtain rfl : ad168 = ad169 := (by injection e169)
        replace hx169_0 := (HB.out.cell (World.block_lt_of_cell? w _ hx169_0)).trans hx169_0
        replace hx169_1 := (HB.out.cell (World.block_lt_of_cell? w _ hx169_1)).trans hx169_1
        replace hx169_2 := (HB.out.cell (World.block_lt_of_cell? w _ hx169_2)).trans hx169_2
        have HR169_2 := Aside0.mk hi169_2
        have HC169_2 := Aside0.mk hl169_2
        clear hi169_2 hl169_2
        replace p169 := eq_true p169
        replace q169 := eq_true q169
        have ea_ := Option.some.inj (hx168_2.symm.trans hx169_2)
        injection ea_ with ea_ en_ ec_
        subst ea_
        subst ec_
        clear en_
        refine start_ (n := 20) (S := fun w' => w'.cell? (ad168.add (((ji11)).toNat * 3)) = some (.int .i64 ((rd_T52 l1 (ji11)).f0)) ∧ w'.cell? ⟨(ad168.add (((ji11)).toNat * 3)).block, (ad168.add (((ji11)).toNat * 3)).off + 1, none⟩ = some (.int .i64 ((rd_T52 l1 (ji11)).f1)) ∧ w'.cell? ⟨(ad168.add (((ji11)).toNat * 3)).block, (ad168.add (((ji11)).toNat * 3)).off + 2, none⟩ = some (.slice A168_2 ((rd_T52 l1 (ji11)).f2).length c168_2) ∧ w'.cell? (ad168.add (((ji11)).toNat * 3)) = some (.int .i64 ((rd_T52 l1 (ji11)).f0)) ∧ w'.cell? ⟨(ad168.add (((ji11)).toNat * 3)).block, (ad168.add (((ji11)).toNat * 3)).off + 1, none⟩ = some (.int .i64 ((rd_T52 l1 (ji11)).f1)) ∧ w'.cell? ⟨(ad168.add (((ji11)).toNat * 3)).block, (ad168.add (((ji11)).toNat * 3)).off + 2, none⟩ = some (.slice A168_2 ((rd_T52 l1 (ji11)).f2).length c168_2)) (ds := []) #[false, false, false, false, false, false, false, false, false, false, false, false, false, false, false, false, false, false, false, false] (by kernel_rfl) rfl rfl ⟨((HB.out.cell (World.block_lt_of_cell? w _ hw168_0)).trans hw168_0), ((HB.out.cell (World.block_lt_of_cell? w _ hw168_1)).trans hw168_1), ((HB.out.cell (World.block_lt_of_cell? w _ hw168_2)).trans hw168_2), ((HB.out.cell (World.block_lt_of_cell? w _ hw169_0)).trans hw169_0), ((HB.out.cell (World.block_lt_of_cell? w _ hw169_1)).trans hw169_1), ((HB.out.cell (World.block_lt_of_cell? w _ hw169_2)).trans hw169_2)⟩ (fun hHeld => ?_); refine with_tabW frame_Apply.tab4 frame_Apply.bits4 (fun HT_ HW_ => ?_)
        generalize wc.drew = w14 at HB HR168_2 HR169_2 hx168_0 hx168_1 hx168_2 hx169_0 hx169_1 hx169_2 hHeld ⊢
        refine pure_ (i := 0) (N := some 21) (v := ?_) (a' := ?_) #[true, false, false, false, false, false, false, false, false, false, false, false, false, false, false, false, false, false, false, false] rfl rfl (any_of HT_.out (by kernel_rfl)) (fun _ _ _ h => h) (Or.inl ⟨by rfl, ?_⟩) ?_ ?_
        rotate_left
        ·intro w'
         go_simp
         with_reducible rfl
        rotate_left
        ·simp only [Act.put, sA_, sB_, sC_, i64_w, i32_w]
         rfl
        refine pure_ (i := 1) (N := some 22) (v := ?_) (a' := ?_) #[true, true, false, false, false, false, false, false, false, false, false, false, false, false, false, false, false, false, false, false] rfl rfl (any_of HT_.out (by kernel_rfl)) (fun _ _ _ h => h) (Or.inl ⟨by rfl, ?_⟩) ?_ ?_
        rotate_left
        ·intro w'
         go_simp
         with_reducible rfl
        rotate_left
        ·simp only [Act.put, sA_, sB_, sC_, i64_w, i32_w]
         rfl
        refine pure_ (i := 2) (N := some 23) (v := ?_) (a' := ?_) #[true, true, true, false, false, false, false, false, false, false, false, false, false, false, false, false, false, false, false, false] rfl rfl (any_of HT_.out (by kernel_rfl)) (fun _ _ _ h => h) (Or.inl ⟨by rfl, ?_⟩) ?_ ?_
        rotate_left
        ·intro w'
         go_simp
         with_reducible rfl
        rotate_left
        ·simp only [Act.put, sA_, sB_, sC_, i64_w, i32_w]
         rfl
        refine pure_ (i := 3) (N := some 24) (v := ?_) (a' := ?_) #[true, true, true, true, false, false, false, false, false, false, false, false, false, false, false, false, false, false, false, false] rfl rfl (any_of HT_.out (by kernel_rfl)) (fun _ _ _ h => h) (Or.inl ⟨by rfl, ?_⟩) ?_ ?_
        rotate_left
        ·intro w'
         go_simp
         with_reducible rfl
        rotate_left
        ·simp only [Act.put, sA_, sB_, sC_, i64_w, i32_w]
         rfl
        refine pure_ (i := 4) (N := some 25) (v := ?_) (a' := ?_) #[true, true, true, true, true, false, false, false, false, false, false, false, false, false, false, false, false, false, false, false] rfl rfl (any_of HT_.out (by kernel_rfl)) (fun _ _ _ h => h) (Or.inl ⟨by rfl, ?_⟩) ?_ ?_
        rotate_left
        ·intro w'
         go_simp
         with_reducible rfl
        rotate_left
        ·simp only [Act.put, sA_, sB_, sC_, i64_w, i32_w]
         rfl
        refine pure_ (i := 5) (N := some 26) (v := ?_) (a' := ?_) #[true, true, true, true, true, true, false, false, false, false, false, false, false, false, false, false, false, false, false, false] rfl rfl (any_of HT_.out (by kernel_rfl)) (fun _ _ _ h => h) (Or.inl ⟨by rfl, ?_⟩) ?_ ?_
        rotate_left
        ·intro w'
         go_simp
         with_reducible rfl
        rotate_left
        ·simp only [Act.put, sA_, sB_, sC_, i64_w, i32_w]
         rfl
        refine pure_ (i := 6) (N := some 27) (v := ?_) (a' := ?_) #[true, true, true, true, true, true, true, false, false, false, false, false, false, false, false, false, false, false, false, false] rfl rfl (any_of HT_.out (by kernel_rfl)) (fun _ _ _ h => h) (Or.inl ⟨by rfl, ?_⟩) ?_ ?_
        rotate_left
        ·intro w'
         go_simp
         with_reducible rfl
        rotate_left
        ·simp only [Act.put, sA_, sB_, sC_, i64_w, i32_w]
         rfl
        refine pure_ (i := 7) (N := some 28) (v := ?_) (a' := ?_) #[true, true, true, true, true, true, true, true, false, false, false, false, false, false, false, false, false, false, false, false] rfl rfl (any_of HT_.out (by kernel_rfl)) (fun _ _ _ h => h) (Or.inl ⟨by rfl, ?_⟩) ?_ ?_
        rotate_left
        ·intro w'
         go_simp
         with_reducible rfl
        rotate_left
        ·simp only [Act.put, sA_, sB_, sC_, i64_w, i32_w]
         rfl
        refine pure_ (i := 9) (N := some 30) (v := ?_) (a' := ?_) #[true, true, true, true, true, true, true, true, false, true, false, false, false, false, false, false, false, false, false, false] rfl rfl (any_of HT_.out (by kernel_rfl)) (fun _ _ _ h => h) (Or.inl ⟨by rfl, ?_⟩) ?_ ?_
        rotate_left
        ·intro w'
         go_simp
         with_reducible rfl
        rotate_left
        ·simp only [Act.put, sA_, sB_, sC_, i64_w, i32_w]
         rfl
        refine pure_ (i := 10) (N := some 31) (v := ?_) (a' := ?_) #[true, true, true, true, true, true, true, true, false, true, true, false, false, false, false, false, false, false, false, false] rfl rfl (any_of HT_.out (by kernel_rfl)) (fun _ _ _ h => h) (Or.inl ⟨by rfl, ?_⟩) ?_ ?_
        rotate_left
        ·intro w'
         go_simp
         with_reducible rfl
        rotate_left
        ·simp only [Act.put, sA_, sB_, sC_, i64_w, i32_w]
         rfl
        refine pure_ (i := 11) (N := some 32) (v := ?_) (a' := ?_) #[true, true, true, true, true, true, true, true, false, true, true, true, false, false, false, false, false, false, false, false] rfl rfl (any_of HT_.out (by kernel_rfl)) (fun _ _ _ h => h) (Or.inl ⟨by rfl, ?_⟩) ?_ ?_
        rotate_left
        ·intro w'
         go_simp
         with_reducible rfl
        rotate_left
        ·simp only [Act.put, sA_, sB_, sC_, i64_w, i32_w]
         rfl
        refine pure_ (i := 12) (N := some 33) (v := ?_) (a' := ?_) #[true, true, true, true, true, true, true, true, false, true, true, true, true, false, false, false, false, false, false, false] rfl rfl (any_of HT_.out (by kernel_rfl)) (fun _ _ _ h => h) (Or.inl ⟨by rfl, ?_⟩) ?_ ?_
        rotate_left
        ·intro w'
         go_simp
         with_reducible rfl
        rotate_left
        ·simp only [Act.put, sA_, sB_, sC_, i64_w, i32_w]
         rfl
        refine pure_ (i := 13) (N := some 34) (v := ?_) (a' := ?_) #[true, true, true, true, true, true, true, true, false, true, true, true, true, true, false, false, false, false, false, false] rfl rfl (any_of HT_.out (by kernel_rfl)) (fun _ _ _ h => h) (Or.inl ⟨by rfl, ?_⟩) ?_ ?_
        rotate_left
        ·intro w'
         go_simp
         with_reducible rfl
        rotate_left
        ·simp only [Act.put, sA_, sB_, sC_, i64_w, i32_w]
         rfl
        refine pure_ (i := 14) (N := some 35) (v := ?_) (a' := ?_) #[true, true, true, true, true, true, true, true, false, true, true, true, true, true, true, false, false, false, false, false] rfl rfl (any_of HT_.out (by kernel_rfl)) (fun _ _ _ h => h) (Or.inl ⟨by rfl, ?_⟩) ?_ ?_
        rotate_left
        ·intro w'
         go_simp
         with_reducible rfl
        rotate_left
        ·simp only [Act.put, sA_, sB_, sC_, i64_w, i32_w]
         rfl
        refine pure_ (i := 15) (N := some 36) (v := ?_) (a' := ?_) #[true, true, true, true, true, true, true, true, false, true, true, true, true, true, true, true, false, false, false, false] rfl rfl (any_of HT_.out (by kernel_rfl)) (fun _ _ _ h => h) (Or.inl ⟨by rfl, ?_⟩) ?_ ?_
        rotate_left
        ·intro w'
         go_simp
         with_reducible rfl
        rotate_left
        ·simp only [Act.put, sA_, sB_, sC_, i64_w, i32_w]
         rfl
        refine take_ (i := 8) (N := some 29) (v := ?_) (a' := ?_) #[true, true, true, true, true, true, true, true, true, true, true, true, true, true, true, true, false, false, false, false] rfl rfl (take_ofW HT_.out HW_.out (by kernel_rfl)) (fun _ _ _ h => h) (Or.inl ⟨by rfl, ?_⟩) hHeld ?_ ?_
        rotate_left
        ·rintro w' ⟨s0, s1, s2, s3, s4, s5⟩
         go_simp
         with_reducible rfl
        rotate_left
        ·simp only [Act.put, sA_, sB_, sC_, i64_w, i32_w]
         rfl
        refine take_ (i := 16) (N := some 37) (v := ?_) (a' := ?_) #[true, true, true, true, true, true, true, true, true, true, true, true, true, true, true, true, true, false, false, false] rfl rfl (take_ofW HT_.out HW_.out (by kernel_rfl)) (fun _ _ _ h => h) (Or.inl ⟨by rfl, ?_⟩) hHeld ?_ ?_
        rotate_left
        ·rintro w' ⟨s0, s1, s2, s3, s4, s5⟩
         go_simp
         with_reducible rfl
        rotate_left
        ·simp only [Act.put, sA_, sB_, sC_, i64_w, i32_w]
         rfl
        refine pure_ (i := 17) (N := some 38) (v := ?_) (a' := ?_) #[true, true, true, true, true, true, true, true, true, true, true, true, true, true, true, true, true, true, false, false] rfl rfl (any_of HT_.out (by kernel_rfl)) (fun _ _ _ h => h) (Or.inl ⟨by rfl, ?_⟩) ?_ ?_
        rotate_left
        ·intro w'
         go_simp
         with_reducible rfl
        rotate_left
        ·simp only [Act.put, sA_, sB_, sC_, i64_w, i32_w]
         rfl
        refine pure_ (i := 18) (N := some 39) (v := ?_) (a' := ?_) #[true, true, true, true, true, true, true, true, true, true, true, true, true, true, true, true, true, true, true, false] rfl rfl (any_of HT_.out (by kernel_rfl)) (fun _ _ _ h => h) (Or.inl ⟨by rfl, ?_⟩) ?_ ?_
        rotate_left
        ·intro w'
         go_simp
         with_reducible rfl
        rotate_left
        ·simp only [Act.put, sA_, sB_, sC_, i64_w, i32_w]
         rfl
        refine pure_ (i := 19) (N := some 40) (v := ?_) (a' := ?_) #[true, true, true, true, true, true, true, true, true, true, true, true, true, true, true, true, true, true, true, true] rfl rfl (any_of HT_.out (by kernel_rfl)) (fun _ _ _ h => h) (Or.inl ⟨by rfl, ?_⟩) ?_ ?_
        rotate_left
        ·intro w'
         go_simp
         with_reducible rfl
        rotate_left
        ·simp only [Act.put, sA_, sB_, sC_, i64_w, i32_w]
         rfl
        refine done_ (done_of HT_.out (by kernel_rfl)) ?_
        try go_wp2
        go_meet
        case rel => exact ⟨_, (decide (((rd_T52 l1 (ji11)).f0) > (wrap64 ((l0.length : Int) - ((rd_T52 l1 (ji11)).f1))))), (by first | rfl | (simp; done) | (simp only [← hji11] <;> (first | rfl | simp)) | (simp [*]; done)), H', ⟨by have := HJ2.out; first | omega | exact Nat.le_refl _⟩, ⟨by repeat (first | (with_reducible first | exact HB.out | apply below_alloc | apply pw_below_drewN | apply below_drew1) | exact HB.out)⟩⟩
       ·rw [if_neg c13] at H
        exact absurd H (by simp)
      ·rw [if_neg c12] at H
       exact absurd H (by simp)
     ·rw [if_neg c10] at H
      have c10b0 : decide (0 < (l1.length : Int)) = false := decide_eq_false c10
      have c10b1 : decide (0 < l1.length) = false := decide_eq_false (by omega)
      clear c10
      (first | rw [c10b0] | (simp only [i64_w, i32_w]; rw [c10b0]) | skip)
      have H' := Aside0.mk H
      clear H
      try go_wp2
      have n0_ := Aside0.mk (below_drew1 HB.out)
      clear HB
      have HB := n0_
      clear n0_
      refine start_ (n := 20) (S := fun w' => True) (ds := []) #[false, false, false, false, false, false, false, false, false, false, false, false, false, false, false, false, false, false, false, false] (by kernel_rfl) rfl rfl trivial (fun hHeld => ?_); refine with_tabW frame_Apply.tab4 frame_Apply.bits4 (fun HT_ HW_ => ?_)
      generalize wc.drew = w15 at HB hHeld ⊢
      refine pure_ (i := 0) (N := some 21) (v := ?_) (a' := ?_) #[true, false, false, false, false, false, false, false, false, false, false, false, false, false, false, false, false, false, false, false] rfl rfl (any_of HT_.out (by kernel_rfl)) (fun _ _ _ h => h) (Or.inl ⟨by rfl, ?_⟩) ?_ ?_
      rotate_left
      ·intro w'
       go_simp
       with_reducible rfl
      rotate_left
      ·simp only [Act.put, sA_, sB_, sC_, i64_w, i32_w]
       rfl
      refine pure_ (i := 1) (N := some 22) (v := ?_) (a' := ?_) #[true, true, false, false, false, false, false, false, false, false, false, false, false, false, false, false, false, false, false, false] rfl rfl (any_of HT_.out (by kernel_rfl)) (fun _ _ _ h => h) (Or.inl ⟨by rfl, ?_⟩) ?_ ?_
      rotate_left
      ·intro w'
       go_simp
       with_reducible rfl
      rotate_left
      ·simp only [Act.put, sA_, sB_, sC_, i64_w, i32_w]
       rfl
      refine pure_ (i := 2) (N := some 23) (v := ?_) (a' := ?_) #[true, true, true, false, false, false, false, false, false, false, false, false, false, false, false, false, false, false, false, false] rfl rfl (any_of HT_.out (by kernel_rfl)) (fun _ _ _ h => h) (Or.inl ⟨by rfl, ?_⟩) ?_ ?_
      rotate_left
      ·intro w'
       go_simp
       with_reducible rfl
      rotate_left
      ·simp only [Act.put, sA_, sB_, sC_, i64_w, i32_w]
       rfl
      refine pure_ (i := 3) (N := some 24) (v := undef) (a' := ?_) #[true, true, true, true, false, false, false, false, false, false, false, false, false, false, false, false, false, false, false, false] rfl rfl (any_of HT_.out (by kernel_rfl)) (fun _ _ _ h => h) (Or.inr ⟨by rfl, rfl⟩) ?_ ?_
      rotate_left
      ·simp only [Act.put, sA_, sB_, sC_, i64_w, i32_w]
       rfl
      refine pure_ (i := 4) (N := some 25) (v := undef) (a' := ?_) #[true, true, true, true, true, false, false, false, false, false, false, false, false, false, false, false, false, false, false, false] rfl rfl (any_of HT_.out (by kernel_rfl)) (fun _ _ _ h => h) (Or.inr ⟨by rfl, rfl⟩) ?_ ?_
      rotate_left
      ·simp only [Act.put, sA_, sB_, sC_, i64_w, i32_w]
       rfl
      refine pure_ (i := 5) (N := some 26) (v := undef) (a' := ?_) #[true, true, true, true, true, true, false, false, false, false, false, false, false, false, false, false, false, false, false, false] rfl rfl (any_of HT_.out (by kernel_rfl)) (fun _ _ _ h => h) (Or.inr ⟨by rfl, rfl⟩) ?_ ?_
      rotate_left
      ·simp only [Act.put, sA_, sB_, sC_, i64_w, i32_w]
       rfl
      refine pure_ (i := 6) (N := some 27) (v := undef) (a' := ?_) #[true, true, true, true, true, true, true, false, false, false, false, false, false, false, false, false, false, false, false, false] rfl rfl (any_of HT_.out (by kernel_rfl)) (fun _ _ _ h => h) (Or.inr ⟨by rfl, rfl⟩) ?_ ?_
      rotate_left
      ·simp only [Act.put, sA_, sB_, sC_, i64_w, i32_w]
       rfl
      refine pure_ (i := 7) (N := some 28) (v := undef) (a' := ?_) #[true, true, true, true, true, true, true, true, false, false, false, false, false, false, false, false, false, false, false, false] rfl rfl (any_of HT_.out (by kernel_rfl)) (fun _ _ _ h => h) (Or.inr ⟨by rfl, rfl⟩) ?_ ?_
      rotate_left
      ·simp only [Act.put, sA_, sB_, sC_, i64_w, i32_w]
       rfl
      refine pure_ (i := 8) (N := some 29) (v := undef) (a' := ?_) #[true, true, true, true, true, true, true, true, true, false, false, false, false, false, false, false, false, false, false, false] rfl rfl (any_of HT_.out (by kernel_rfl)) (fun _ _ _ h => h) (Or.inr ⟨by rfl, rfl⟩) ?_ ?_
      rotate_left
      ·simp only [Act.put, sA_, sB_, sC_, i64_w, i32_w]
       rfl
      refine pure_ (i := 9) (N := some 30) (v := undef) (a' := ?_) #[true, true, true, true, true, true, true, true, true, true, false, false, false, false, false, false, false, false, false, false] rfl rfl (any_of HT_.out (by kernel_rfl)) (fun _ _ _ h => h) (Or.inr ⟨by rfl, rfl⟩) ?_ ?_
      rotate_left
      ·simp only [Act.put, sA_, sB_, sC_, i64_w, i32_w]
       rfl
      refine pure_ (i := 10) (N := some 31) (v := undef) (a' := ?_) #[true, true, true, true, true, true, true, true, true, true, true, false, false, false, false, false, false, false, false, false] rfl rfl (any_of HT_.out (by kernel_rfl)) (fun _ _ _ h => h) (Or.inr ⟨by rfl, rfl⟩) ?_ ?_
      rotate_left
      ·simp only [Act.put, sA_, sB_, sC_, i64_w, i32_w]
       rfl
      refine pure_ (i := 11) (N := some 32) (v := undef) (a' := ?_) #[true, true, true, true, true, true, true, true, true, true, true, true, false, false, false, false, false, false, false, false] rfl rfl (any_of HT_.out (by kernel_rfl)) (fun _ _ _ h => h) (Or.inr ⟨by rfl, rfl⟩) ?_ ?_
      rotate_left
      ·simp only [Act.put, sA_, sB_, sC_, i64_w, i32_w]
       rfl
      refine pure_ (i := 12) (N := some 33) (v := undef) (a' := ?_) #[true, true, true, true, true, true, true, true, true, true, true, true, true, false, false, false, false, false, false, false] rfl rfl (any_of HT_.out (by kernel_rfl)) (fun _ _ _ h => h) (Or.inr ⟨by rfl, rfl⟩) ?_ ?_
      rotate_left
      ·simp only [Act.put, sA_, sB_, sC_, i64_w, i32_w]
       rfl
      refine pure_ (i := 13) (N := some 34) (v := undef) (a' := ?_) #[true, true, true, true, true, true, true, true, true, true, true, true, true, true, false, false, false, false, false, false] rfl rfl (any_of HT_.out (by kernel_rfl)) (fun _ _ _ h => h) (Or.inr ⟨by rfl, rfl⟩) ?_ ?_
      rotate_left
      ·simp only [Act.put, sA_, sB_, sC_, i64_w, i32_w]
       rfl
      refine pure_ (i := 14) (N := some 35) (v := undef) (a' := ?_) #[true, true, true, true, true, true, true, true, true, true, true, true, true, true, true, false, false, false, false, false] rfl rfl (any_of HT_.out (by kernel_rfl)) (fun _ _ _ h => h) (Or.inr ⟨by rfl, rfl⟩) ?_ ?_
      rotate_left
      ·simp only [Act.put, sA_, sB_, sC_, i64_w, i32_w]
       rfl
      refine pure_ (i := 15) (N := some 36) (v := undef) (a' := ?_) #[true, true, true, true, true, true, true, true, true, true, true, true, true, true, true, true, false, false, false, false] rfl rfl (any_of HT_.out (by kernel_rfl)) (fun _ _ _ h => h) (Or.inr ⟨by rfl, rfl⟩) ?_ ?_
      rotate_left
      ·simp only [Act.put, sA_, sB_, sC_, i64_w, i32_w]
       rfl
      refine pure_ (i := 16) (N := some 37) (v := undef) (a' := ?_) #[true, true, true, true, true, true, true, true, true, true, true, true, true, true, true, true, true, false, false, false] rfl rfl (any_of HT_.out (by kernel_rfl)) (fun _ _ _ h => h) (Or.inr ⟨by rfl, rfl⟩) ?_ ?_
      rotate_left
      ·simp only [Act.put, sA_, sB_, sC_, i64_w, i32_w]
       rfl
      refine pure_ (i := 17) (N := some 38) (v := undef) (a' := ?_) #[true, true, true, true, true, true, true, true, true, true, true, true, true, true, true, true, true, true, false, false] rfl rfl (any_of HT_.out (by kernel_rfl)) (fun _ _ _ h => h) (Or.inr ⟨by rfl, rfl⟩) ?_ ?_
      rotate_left
      ·simp only [Act.put, sA_, sB_, sC_, i64_w, i32_w]
       rfl
      refine pure_ (i := 18) (N := some 39) (v := undef) (a' := ?_) #[true, true, true, true, true, true, true, true, true, true, true, true, true, true, true, true, true, true, true, false] rfl rfl (any_of HT_.out (by kernel_rfl)) (fun _ _ _ h => h) (Or.inr ⟨by rfl, rfl⟩) ?_ ?_
      rotate_left
      ·simp only [Act.put, sA_, sB_, sC_, i64_w, i32_w]
       rfl
      refine pure_ (i := 19) (N := some 40) (v := ?_) (a' := ?_) #[true, true, true, true, true, true, true, true, true, true, true, true, true, true, true, true, true, true, true, true] rfl rfl (any_of HT_.out (by kernel_rfl)) (fun _ _ _ h => h) (Or.inl ⟨by rfl, ?_⟩) ?_ ?_
      rotate_left
      ·intro w'
       go_simp
       with_reducible rfl
      rotate_left
      ·simp only [Act.put, sA_, sB_, sC_, i64_w, i32_w]
       rfl
      refine done_ (done_of HT_.out (by kernel_rfl)) ?_
      try go_wp2
      go_meet
      case rel => exact ⟨_, (false), (by first | rfl | (simp; done) | (simp [*]; done)), H', ⟨by have := HJ2.out; first | omega | exact Nat.le_refl _⟩, ⟨by repeat (first | (with_reducible first | exact HB.out | apply below_alloc | apply pw_below_drewN | apply below_drew1) | exact HB.out)⟩⟩
    case rest =>
     clear HC9
     try clear c1
     try clear p1
     try clear q1
     try clear hx1
     try clear p2
     try clear c4
     try clear c5
     try clear c5b0
     try clear c5b1
     try clear p6
     try clear c8
     try clear c10
     try clear c10b0
     try clear c10b1
     try clear c12
     try clear c12b0
     try clear c13
     try clear c13b0
     try clear hx168_0
     try clear hx168_1
     try clear hx168_2
     try clear hx169_0
     try clear hx169_1
     try clear hx169_2
     try clear p168
     try clear p169
     try clear p2
     try clear q168
     try clear q169
     obtain ⟨kq, x40_8, rfl, HA, HJ8, HB⟩ := hcut
     cases kq with
     | zero => exact absurd HA.out (by simp [frame_Apply.j1])
     | succ kj8 =>
      have H := HA.out
      clear HA
      simp only [frame_Apply.j1] at H
      by_cases c16 : x40_8 = true
      ·subst c16
       have H1 : (some (([] : List ByteArray), 5)) = some (r1, r2) := by rw [if_pos rfl] at H; exact H
       clear H
       have H := H1
       clear H1
       simp only [Option.some.injEq, Prod.mk.injEq] at H
       obtain ⟨rfl, rfl⟩ := H
       go_wp2
       go_ret2
       exact ⟨_, by first | rfl | (simp [errW_none, errW_some] <;> rfl) | (simp [*, errW_none, errW_some] <;> rfl), by first | exact Kd.R_nil _ _ _ _ _ | exact Kd.N_nil _ _ _ _ _ | exact Kd.V_nil _ _ _ _ _ | exact Kd.Q_nil _ _ _ _ _ | exact Kd.S_nil _ _ _ _ _, by repeat (first | (with_reducible first | exact HB.out | apply below_alloc | apply pw_below_drewN | apply below_drew1) | exact HB.out)⟩
      ·replace c16 := Bool.eq_false_iff.mpr c16
       subst c16
       have H1 : (frame_Apply.l0 kj8 l0 ([] : List ByteArray) 0 l1 (l1.length : Int) 0) = some (r1, r2) := by rw [if_neg (show ¬ (false = true) by decide)] at H; exact H
       clear H
       have H := H1
       clear H1
       have H' := Aside0.mk H
       clear H
       go_wp2
       go_loopg [7, 8, 43] kj8 (fun kq v7 v8 v43 w' => ∃ (x7_3 : List ByteArray) (x8_3 : Int) (x43_3 : Int), v8 = .int .i64 x8_3 ∧ v43 = .int .i64 x43_3 ∧ Aside0 (frame_Apply.l0 kq l0 x7_3 x8_3 l1 (l1.length : Int) x43_3 = some (r1, r2)) ∧ Aside0 (kq ≤ kj8) ∧ Aside0 (Kd.R Kd.string 9 w' w.heap.size (fun _ => True) v7 x7_3) ∧ Aside0 (Below w.heap.size w w'))
       case atStart => exact ⟨(([] : List ByteArray)), (0), (0), (by first | rfl | (simp; done) | (simp [*]; done)), (by first | rfl | (simp; done) | (simp [*]; done)), H', ⟨Nat.le_refl _⟩, ⟨by first | exact Kd.R_nil _ _ _ _ _ | exact Kd.N_nil _ _ _ _ _ | exact Kd.V_nil _ _ _ _ _ | exact Kd.Q_nil _ _ _ _ _ | exact Kd.S_nil _ _ _ _ _⟩, ⟨by repeat (first | (with_reducible first | exact HB.out | apply below_alloc | apply pw_below_drewN | apply below_drew1) | exact HB.out)⟩⟩
       case round =>
        clear H'
        try clear c1
        try clear p1
        try clear q1
        try clear hx1
        try clear p2
        try clear c4
        try clear c5
        try clear c5b0
        try clear c5b1
        try clear p6
        try clear c8
        try clear c10
        try clear c10b0
        try clear c10b1
        try clear c12
        try clear c12b0
        try clear c13
        try clear c13b0
        try clear c16
        try clear p16
        try clear q16
        try clear hx16
        try clear hx168_0
        try clear hx168_1
        try clear hx168_2
        try clear hx169_0
        try clear hx169_1
        try clear hx169_2
        try clear p1
        try clear p168
        try clear p169
        try clear p2
        try clear p6
        try clear q1
        try clear q168
        try clear q169
        obtain ⟨x7_3, x8_3, x43_3, rfl, rfl, HA, HK3, HO_7, HB⟩ := hrel
        cases gk with
        | zero => exact absurd HA.out (by simp [frame_Apply.l0])
        | succ k3 =>
         have H := HA.out
         clear HA
         simp only [frame_Apply.l0] at H
         by_cases c17 : x43_3 < (l1.length : Int)
         ·rw [if_pos c17] at H
          have c17b0 : decide (x43_3 < (l1.length : Int)) = true := decide_eq_true c17
          clear c17
          by_cases c18 : 0 ≤ x43_3
          ·rw [if_pos c18] at H
           have c18b0 : decide (0 ≤ x43_3) = true := decide_eq_true c18
           clear c18
           by_cases c19 : x43_3 < (l1.length : Int)
           ·rw [if_pos c19] at H
            have c19b0 : decide (x43_3 < (l1.length : Int)) = true := decide_eq_true c19
            clear c19
            by_cases c20 : 0 ≤ x8_3
            ·rw [if_pos c20] at H
             have c20b0 := eq_true c20
             have c20b1 : decide (0 ≤ x8_3) = true := decide_eq_true c20
             clear c20
             by_cases c21 : x8_3 ≤ ((rd_T52 l1 x43_3).f0)
             ·rw [if_pos c21] at H
              have c21b0 := eq_true c21
              have c21b1 : decide (x8_3 ≤ ((rd_T52 l1 x43_3).f0)) = true := decide_eq_true c21
              clear c21
              by_cases c22 : ((rd_T52 l1 x43_3).f0) ≤ (l0.length : Int)
              ·rw [if_pos c22] at H
               have c22b0 := eq_true c22
               have c22b1 : decide (((rd_T52 l1 x43_3).f0) ≤ (l0.length : Int)) = true := decide_eq_true c22
               clear c22
               by_cases c23 : x7_3.length + ((l0.take (((rd_T52 l1 x43_3).f0) : Int).toNat).drop (x8_3 : Int).toNat).length < 8796093022208
               ·rw [if_pos c23] at H
                have LMc23 := Aside0.mk c23
                clear c23
                obtain ⟨y173, hy173⟩ : ∃ y_ : List ByteArray, y_ = (x7_3 ++ ((l0.take (((rd_T52 l1 x43_3).f0) : Int).toNat).drop (x8_3 : Int).toNat)) := ⟨_, rfl⟩
                replace H : (if y173.length + ((rd_T52 l1 x43_3).f2).length < 8796093022208 then (frame_Apply.l0 k3 l0 (y173 ++ ((rd_T52 l1 x43_3).f2)) (wrap64 (((rd_T52 l1 x43_3).f0) + ((rd_T52 l1 x43_3).f1))) l1 (l1.length : Int) (wrap64 (x43_3 + 1))) else (none)) = some (r1, r2) := by first | (rw [hy173]; with_reducible exact H) | (have H2_ := (Option.bind_some _ _).symm.trans H; rw [hy173]; with_reducible exact H2_) | (have H2_ := (Option.bind_some _ _).symm.trans H; with_reducible exact H2_) | with_reducible exact H | (rw [hy173]; exact H) | exact H
                have Ny173 := Aside0.mk hy173
                clear hy173
                by_cases c24 : y173.length + ((rd_T52 l1 x43_3).f2).length < 8796093022208
                ·rw [if_pos c24] at H
                 have LMc24 := Aside0.mk c24
                 clear c24
                 obtain ⟨y176, hy176⟩ : ∃ y_ : List ByteArray, y_ = (y173 ++ ((rd_T52 l1 x43_3).f2)) := ⟨_, rfl⟩
                 replace H : (frame_Apply.l0 k3 l0 y176 (wrap64 (((rd_T52 l1 x43_3).f0) + ((rd_T52 l1 x43_3).f1))) l1 (l1.length : Int) (wrap64 (x43_3 + 1))) = some (r1, r2) := by first | (rw [hy176]; with_reducible exact H) | (have H2_ := (Option.bind_some _ _).symm.trans H; rw [hy176]; with_reducible exact H2_) | (have H2_ := (Option.bind_some _ _).symm.trans H; with_reducible exact H2_) | with_reducible exact H | (rw [hy176]; exact H) | exact H
                 have Ny176 := Aside0.mk hy176
                 clear hy176
                 have H' := Aside0.mk H
                 clear H
                 have p170 : 0 ≤ (x43_3 : Int) := of_decide_eq_true (by first | (with_reducible assumption) | assumption)
                 have q170 : x43_3 < (l1.length : Int) := of_decide_eq_true (by first | (with_reducible assumption) | assumption)
                 obtain ⟨ad170, A170_2, c170_2, e170, hx170_0, hx170_1, hx170_2, hl170_2, hi170_2⟩ := at_T52 HR1.out x43_3 p170 q170
                 cases e170
                 replace hx170_0 := (HB.out.cell (World.block_lt_of_cell? w _ hx170_0)).trans hx170_0
                 replace hx170_1 := (HB.out.cell (World.block_lt_of_cell? w _ hx170_1)).trans hx170_1
                 replace hx170_2 := (HB.out.cell (World.block_lt_of_cell? w _ hx170_2)).trans hx170_2
                 have HR170_2 := Aside0.mk hi170_2
                 have HC170_2 := Aside0.mk hl170_2
                 clear hi170_2 hl170_2
                 replace p170 := eq_true p170
                 replace q170 := eq_true q170
                 try go_wp2_with (first | ((with_reducible refine gate_dst (N := 10) rfl ?_); (try (refine gate_guard (by rfl) ?_; dsimp only)); refine box_event ?hg (N := 10) ?hd (cs := #[.int .i64 0, .int .i64 0, .slice none 0 0]) (t := 52) ?hr ?_; (case hd => rfl); (case hg => rfl); (case hr => first | (go_simp; done) | (go_simp; rfl)); intro gb171 hg w25 hbox hb; have n0_ := Aside0.mk (Kd.R_below (by (with_reducible repeat (first | apply Kd.R_alloc | apply Kd.R_drewN | apply Kd.R_drew)); exact HO_7.out) hb); have n1_ := Aside0.mk (below_step (by repeat (first | (with_reducible first | exact HB.out | apply below_alloc | apply pw_below_drewN | apply below_drew1) | exact HB.out)) hb); have n2_ := Aside0.mk (hbox); have n3_ := Aside0.mk ((by rw [hg]; exact (below_size (by repeat (first | (with_reducible first | exact HB.out | apply below_alloc | apply pw_below_drewN | apply below_drew1) | exact HB.out))) : w.heap.size ≤ gb171)); have n4_ := Aside0.mk ((by rw [hg]; exact (below_size (by repeat (first | (with_reducible first | exact HB.out | apply below_alloc | apply pw_below_drewN | apply below_drew1) | exact HB.out))) : w.heap.size ≤ gb171)); clear HO_7; clear HB; have HO_7 := n0_; have HB := n1_; have BK171 := n2_; have GW171 := n3_; have GE171 := n4_; clear n0_ n1_ n2_ n3_ n4_; clear hb hbox hg; have hcz26_0 : w25.cell? ⟨gb171, 0, none⟩ = some (.int .i64 0) := (blk_cell BK171.out 0).trans rfl; have hcz26_1 : w25.cell? ⟨gb171, 1, none⟩ = some (.int .i64 0) := (blk_cell BK171.out 1).trans rfl; have hcz26_2 : w25.cell? ⟨gb171, 2, none⟩ = some (.slice none 0 0) := (blk_cell BK171.out 2).trans rfl; have hfz26_0 := blk_frozen BK171.out 0; have hfz26_1 := blk_frozen BK171.out 1; have hfz26_2 := blk_frozen BK171.out 2))
                 have n0_ : Aside0 (Kd.R Kd.string 9 (((w25.setCell ⟨gb171, 0, none⟩ (.int .i64 ((rd_T52 l1 x43_3).f0))).setCell ⟨gb171, 1, none⟩ (.int .i64 ((rd_T52 l1 x43_3).f1))).setCell ⟨gb171, 2, none⟩ (.slice A170_2 ((rd_T52 l1 x43_3).f2).length c170_2)) w.heap.size (fun _ => True) u7 x7_3) := ⟨by (with_reducible repeat (first | apply Kd.R_alloc | apply Kd.R_drewN | apply Kd.R_drew)); exact Kd.R_mono (Kd.R_far (p := ⟨gb171, 2, none⟩) (Kd.R_far (p := ⟨gb171, 1, none⟩) (Kd.R_far (p := ⟨gb171, 0, none⟩) (Kd.R_types HO_7.out BK171.out (by decide)) (fun _ hk => hk.2) (.int .i64 ((rd_T52 l1 x43_3).f0))) (fun _ hk => hk.2) (.int .i64 ((rd_T52 l1 x43_3).f1))) (fun _ hk => hk.2) (.slice A170_2 ((rd_T52 l1 x43_3).f2).length c170_2)) (fun _ hk => trivial)⟩
                 have n1_ : Aside0 ((((w25.setCell ⟨gb171, 0, none⟩ (.int .i64 ((rd_T52 l1 x43_3).f0))).setCell ⟨gb171, 1, none⟩ (.int .i64 ((rd_T52 l1 x43_3).f1))).setCell ⟨gb171, 2, none⟩ (.slice A170_2 ((rd_T52 l1 x43_3).f2).length c170_2)).heap[gb171]? = some (.cells #[.int .i64 ((rd_T52 l1 x43_3).f0), .int .i64 ((rd_T52 l1 x43_3).f1), .slice A170_2 ((rd_T52 l1 x43_3).f2).length c170_2] 52 (0, 0))) := ⟨by (with_reducible repeat (first | refine blk_drewN ?_ _ | refine blk_drew ?_ | refine blk_alloc ?_ _)); refine blk_put (cs := #[.int .i64 ((rd_T52 l1 x43_3).f0), .int .i64 ((rd_T52 l1 x43_3).f1), .slice none 0 0]) ?_ 2 _ rfl; (with_reducible repeat (first | refine blk_drewN ?_ _ | refine blk_drew ?_ | refine blk_alloc ?_ _)); refine blk_put (cs := #[.int .i64 ((rd_T52 l1 x43_3).f0), .int .i64 0, .slice none 0 0]) ?_ 1 _ rfl; (with_reducible repeat (first | refine blk_drewN ?_ _ | refine blk_drew ?_ | refine blk_alloc ?_ _)); refine blk_put (cs := #[.int .i64 0, .int .i64 0, .slice none 0 0]) ?_ 0 _ rfl; (with_reducible repeat (first | refine blk_drewN ?_ _ | refine blk_drew ?_ | refine blk_alloc ?_ _)); exact BK171.out⟩
                 have n2_ : Aside0 (Below w.heap.size w (((w25.setCell ⟨gb171, 0, none⟩ (.int .i64 ((rd_T52 l1 x43_3).f0))).setCell ⟨gb171, 1, none⟩ (.int .i64 ((rd_T52 l1 x43_3).f1))).setCell ⟨gb171, 2, none⟩ (.slice A170_2 ((rd_T52 l1 x43_3).f2).length c170_2))) := ⟨by repeat (first | (with_reducible first | exact HB.out | apply below_alloc | apply pw_below_drewN | apply below_drew1 | refine below_set ?_ GE171.out) | exact HB.out)⟩
                 (try clear HO_7)
                 (try clear BK171)
                 (try clear HB)
                 generalize (((w25.setCell ⟨gb171, 0, none⟩ (.int .i64 ((rd_T52 l1 x43_3).f0))).setCell ⟨gb171, 1, none⟩ (.int .i64 ((rd_T52 l1 x43_3).f1))).setCell ⟨gb171, 2, none⟩ (.slice A170_2 ((rd_T52 l1 x43_3).f2).length c170_2)) = w27 at n0_ n1_ n2_ ⊢
                 have HO_7 := n0_
                 have BK171 := n1_
                 have HB := n2_
                 clear n0_ n1_ n2_
                 have n0_ := Aside0.mk (Kd.R_drew HO_7.out)
                 have n1_ := Aside0.mk (blk_drew BK171.out)
                 have n2_ := Aside0.mk (below_drew1 HB.out)
                 clear HO_7
                 clear BK171
                 clear HB
                 have HO_7 := n0_
                 have BK171 := n1_
                 have HB := n2_
                 clear n0_ n1_ n2_
                 obtain ⟨i029, hi029, _, hsz29, _⟩ := info_parts info9
                 obtain ⟨A29, hcut29, hA29, hC29⟩ := print_mid_of (P := Tryd.prog) Value.string (⟨#[]⟩ : ByteArray) 28 9 .i64 .i64 Tryd.underlying28 hi029 hsz29 A0 c0 l0 x8_3 ((rd_T52 l1 x43_3).f0) (of_decide_eq_true (by first | (with_reducible assumption) | assumption)) (by first | omega | exact of_decide_eq_true (by first | (with_reducible assumption) | assumption)) (of_decide_eq_true (by first | (with_reducible assumption) | assumption)) HC0.out
                 have HR172 := Aside0.mk (Kd.C_of_reads (h1 := fun _ => rfl) (hA29 _ (Kd.reads_of_C HR0.out)))
                 have HC172 := Aside0.mk hC29
                 clear hA29 hC29 hi029 hsz29
                 refine start_ (n := 11) (S := fun w' => w'.cell? ⟨gb171, 0, none⟩ = some (.int .i64 ((rd_T52 l1 x43_3).f0)) ∧ w'.cell? ⟨gb171, 1, none⟩ = some (.int .i64 ((rd_T52 l1 x43_3).f1)) ∧ w'.cell? ⟨gb171, 2, none⟩ = some (.slice A170_2 ((rd_T52 l1 x43_3).f2).length c170_2)) (ds := []) #[false, false, false, false, false, false, false, false, false, false, false] (by kernel_rfl) rfl rfl ⟨(blk_cell BK171.out 0).trans rfl, (blk_cell BK171.out 1).trans rfl, (blk_cell BK171.out 2).trans rfl⟩ (fun hHeld => ?_); refine with_tabW frame_Apply.tab11 frame_Apply.bits11 (fun HT_ HW_ => ?_)
                 generalize w27.drew = w28 at HO_7 BK171 HB HR172 hHeld ⊢
                 refine pure_ (i := 0) (N := some 47) (v := ?_) (a' := ?_) #[true, false, false, false, false, false, false, false, false, false, false] rfl rfl (any_of HT_.out (by kernel_rfl)) (fun _ _ _ h => h) (Or.inl ⟨by rfl, ?_⟩) ?_ ?_
                 rotate_left
                 ·intro w'
                  go_simp
                  with_reducible rfl
                 rotate_left
                 ·simp only [Act.put, sA_, sB_, sC_, i64_w, i32_w]
                  rfl
                 refine pure_ (i := 1) (N := some 48) (v := ?_) (a' := ?_) #[true, true, false, false, false, false, false, false, false, false, false] rfl rfl (any_of HT_.out (by kernel_rfl)) (fun _ _ _ h => h) (Or.inl ⟨by rfl, ?_⟩) ?_ ?_
                 rotate_left
                 ·intro w'
                  go_simp
                  with_reducible rfl
                 rotate_left
                 ·simp only [Act.put, sA_, sB_, sC_, i64_w, i32_w]
                  rfl
                 refine pure_ (i := 2) (N := some 49) (v := ?_) (a' := ?_) #[true, true, true, false, false, false, false, false, false, false, false] rfl rfl (any_of HT_.out (by kernel_rfl)) (fun _ _ _ h => h) (Or.inl ⟨by rfl, ?_⟩) ?_ ?_
                 rotate_left
                 ·intro w'
                  go_simp
                  with_reducible rfl
                 rotate_left
                 ·simp only [Act.put, sA_, sB_, sC_, i64_w, i32_w]
                  rfl
                 refine pure_ (i := 3) (N := some 50) (v := ?_) (a' := ?_) #[true, true, true, true, false, false, false, false, false, false, false] rfl rfl (any_of HT_.out (by kernel_rfl)) (fun _ _ _ h => h) (Or.inl ⟨by rfl, ?_⟩) ?_ ?_
                 rotate_left
                 ·intro w'
                  go_simp
                  with_reducible rfl
                 rotate_left
                 ·simp only [Act.put, sA_, sB_, sC_, i64_w, i32_w]
                  rfl
                 refine pure_ (i := 7) (N := some 54) (v := ?_) (a' := ?_) #[true, true, true, true, false, false, false, true, false, false, false] rfl rfl (any_of HT_.out (by kernel_rfl)) (fun _ _ _ h => h) (Or.inl ⟨by rfl, ?_⟩) ?_ ?_
                 rotate_left
                 ·intro w'
                  go_simp
                  with_reducible rfl
                 rotate_left
                 ·simp only [Act.put, sA_, sB_, sC_, i64_w, i32_w]
                  rfl
                 refine take_ (i := 4) (N := some 51) (v := ?_) (a' := ?_) #[true, true, true, true, true, false, false, true, false, false, false] rfl rfl (take_ofW HT_.out HW_.out (by kernel_rfl)) (fun _ _ _ h => h) (Or.inl ⟨by rfl, ?_⟩) hHeld ?_ ?_
                 rotate_left
                 ·rintro w' ⟨s0, s1, s2⟩
                  go_simp
                  with_reducible rfl
                 rotate_left
                 ·simp only [Act.put, sA_, sB_, sC_, i64_w, i32_w]
                  rfl
                 refine pure_ (i := 5) (N := some 52) (v := ?_) (a' := ?_) #[true, true, true, true, true, true, false, true, false, false, false] rfl rfl (any_of HT_.out (by kernel_rfl)) (fun _ _ _ h => h) (Or.inl ⟨by rfl, ?_⟩) ?_ ?_
                 rotate_left
                 ·intro w'
                  go_simp
                  with_reducible rfl
                 rotate_left
                 ·simp only [Act.put, sA_, sB_, sC_, i64_w, i32_w]
                  rfl
                 refine take_ (i := 8) (N := some 55) (v := ?_) (a' := ?_) #[true, true, true, true, true, true, false, true, true, false, false] rfl rfl (take_ofW HT_.out HW_.out (by kernel_rfl)) (fun _ _ _ h => h) (Or.inl ⟨by rfl, ?_⟩) hHeld ?_ ?_
                 rotate_left
                 ·rintro w' ⟨s0, s1, s2⟩
                  go_simp
                  with_reducible rfl
                 rotate_left
                 ·simp only [Act.put, sA_, sB_, sC_, i64_w, i32_w]
                  rfl
                 refine one_ (i := 6) (N := some 53) #[true, true, true, true, true, true, true, true, true, false, false] rfl rfl (one_of HT_.out (by kernel_rfl)) (by decide) (fun K hK => ?_)
                 refine Kd.R_append_rows_step Kd.string (w0 := w) w.heap.size (by rfl) (.tmp 47) (.tmp 52) 28 9 (.string ⟨#[]⟩) 16 rfl Tryd.underlying28 info9 rfl (by decide) (by omega) u7 x7_3 ((l0.take (((rd_T52 l1 x43_3).f0) : Int).toNat).drop (x8_3 : Int).toNat) _ _ _ (fun _ => True) (fun _ => False) rfl rfl ?aO ?aR (fun _ _ h => h) (fun _ h => h.elim) ?aF ?aB ?aS ?aL ?_
                 (case aR => first | (rw [← show ((l0.take (((rd_T52 l1 x43_3).f0) : Int).toNat).drop (x8_3 : Int).toNat).length = (((rd_T52 l1 x43_3).f0).toNat - x8_3.toNat) from (by rw [List.length_drop, List.length_take]; have h_ : (((rd_T52 l1 x43_3).f0) : Int) ≤ (l0.length : Int) := of_decide_eq_true (by first | (with_reducible assumption) | assumption); omega)]; repeat (first | exact (Kd.C_below HR172.out HB.out) | (with_reducible refine Kd.C_alloc ?_ _) | (with_reducible refine Kd.C_drewN ?_ _) | (with_reducible refine Kd.C_drew ?_))) | (repeat (first | exact (Kd.C_below HR172.out HB.out) | (with_reducible refine Kd.C_alloc ?_ _) | (with_reducible refine Kd.C_drewN ?_ _) | (with_reducible refine Kd.C_drew ?_))))
                 (case aB => exact (by repeat (first | (with_reducible first | exact HB.out | apply below_alloc | apply pw_below_drewN | apply below_drew1 | refine below_set ?_ GE171.out) | exact HB.out)))
                 (case aF => exact (fun _ _ => trivial))
                 (case aO => exact (by (with_reducible repeat (first | apply Kd.R_alloc | apply Kd.R_drewN | apply Kd.R_drew)); exact HO_7.out))
                 (case aS => exact (below_size (by repeat (first | (with_reducible first | exact HB.out | apply below_alloc | apply pw_below_drewN | apply below_drew1 | refine below_set ?_ GE171.out) | exact HB.out))))
                 (case aL => have := LMc23.out; have hlx_ := (show ((l0.take (((rd_T52 l1 x43_3).f0) : Int).toNat).drop (x8_3 : Int).toNat).length = (((rd_T52 l1 x43_3).f0).toNat - x8_3.toNat) from (by rw [List.length_drop, List.length_take]; have h_ : (((rd_T52 l1 x43_3).f0) : Int) ≤ (l0.length : Int) := of_decide_eq_true (by first | (with_reducible assumption) | assumption); omega)); omega)
                 intro v174 w30 ho hb hg hat
                 rw [← Ny173.out] at ho
                 have n0_ := Aside0.mk (blk_grown (g := gb171) (o := .cells #[.int .i64 ((rd_T52 l1 x43_3).f0), .int .i64 ((rd_T52 l1 x43_3).f1), .slice A170_2 ((rd_T52 l1 x43_3).f2).length c170_2] 52 (0, 0)) (by (with_reducible repeat (first | refine blk_drewN ?_ _ | refine blk_drew ?_ | refine blk_alloc ?_ _)); exact BK171.out) hg (Kd.R_ne HO_7.out BK171.out (by decide)))
                 have n1_ := Aside0.mk (hb)
                 have n2_ := Aside0.mk (ho)
                 clear BK171
                 clear HB
                 clear HO_7
                 have BK171 := n0_
                 have HB := n1_
                 have HO175 := n2_
                 clear n0_ n1_ n2_
                 clear ho hb hg hat
                 refine hK.out _ _ ⟨(blk_cell BK171.out 0).trans rfl, (blk_cell BK171.out 1).trans rfl, (blk_cell BK171.out 2).trans rfl⟩ (fun hHeld => ?_)
                 clear hK K
                 refine norm_ (a' := ?_) ?_ ?_
                 rotate_left
                 ·show Act.put _ (some 53) _ = _
                  simp only [Act.put, sA_, sB_, sC_, i64_w, i32_w]
                  rfl
                 refine one_ (i := 9) (N := some 56) #[true, true, true, true, true, true, true, true, true, true, false] rfl rfl (one_of HT_.out (by kernel_rfl)) (by decide) (fun K hK => ?_)
                 refine Kd.R_append_rows_step Kd.string (w0 := w) w.heap.size (by rfl) (.tmp 53) (.tmp 55) 28 9 (.string ⟨#[]⟩) 16 rfl Tryd.underlying28 info9 rfl (by decide) (by omega) v174 y173 ((rd_T52 l1 x43_3).f2) _ _ _ (fun _ => True) (fun _ => False) rfl rfl ?aO ?aR (fun _ _ h => h) (fun _ h => h.elim) ?aF ?aB ?aS ?aL ?_
                 (case aR => repeat (first | exact (Kd.C_below HR170_2.out HB.out) | (with_reducible refine Kd.C_alloc ?_ _) | (with_reducible refine Kd.C_drewN ?_ _) | (with_reducible refine Kd.C_drew ?_)))
                 (case aB => exact (by repeat (first | (with_reducible first | exact HB.out | apply below_alloc | apply pw_below_drewN | apply below_drew1 | refine below_set ?_ GE171.out) | exact HB.out)))
                 (case aF => exact (fun _ _ => trivial))
                 (case aO => exact (by (with_reducible repeat (first | apply Kd.R_alloc | apply Kd.R_drewN | apply Kd.R_drew)); exact HO175.out))
                 (case aS => exact (below_size (by repeat (first | (with_reducible first | exact HB.out | apply below_alloc | apply pw_below_drewN | apply below_drew1 | refine below_set ?_ GE171.out) | exact HB.out))))
                 (case aL => have := LMc24.out; omega)
                 intro v177 w31 ho hb hg hat
                 rw [← Ny176.out] at ho
                 have n0_ := Aside0.mk (blk_grown (g := gb171) (o := .cells #[.int .i64 ((rd_T52 l1 x43_3).f0), .int .i64 ((rd_T52 l1 x43_3).f1), .slice A170_2 ((rd_T52 l1 x43_3).f2).length c170_2] 52 (0, 0)) (by (with_reducible repeat (first | refine blk_drewN ?_ _ | refine blk_drew ?_ | refine blk_alloc ?_ _)); exact BK171.out) hg (Kd.R_ne HO175.out BK171.out (by decide)))
                 have n1_ := Aside0.mk (hb)
                 have n2_ := Aside0.mk (ho)
                 clear BK171
                 clear HB
                 clear HO175
                 have BK171 := n0_
                 have HB := n1_
                 have HO178 := n2_
                 clear n0_ n1_ n2_
                 clear ho hb hg hat
                 refine hK.out _ _ ⟨(blk_cell BK171.out 0).trans rfl, (blk_cell BK171.out 1).trans rfl, (blk_cell BK171.out 2).trans rfl⟩ (fun hHeld => ?_)
                 clear hK K
                 refine norm_ (a' := ?_) ?_ ?_
                 rotate_left
                 ·show Act.put _ (some 56) _ = _
                  simp only [Act.put, sA_, sB_, sC_, i64_w, i32_w]
                  rfl
                 refine pure_ (i := 10) (N := some 7) (v := ?_) (a' := ?_) #[true, true, true, true, true, true, true, true, true, true, true] rfl rfl (any_of HT_.out (by kernel_rfl)) (fun _ _ _ h => h) (Or.inl ⟨by rfl, ?_⟩) ?_ ?_
                 rotate_left
                 ·intro w'
                  go_simp
                  with_reducible rfl
                 rotate_left
                 ·simp only [Act.put, sA_, sB_, sC_, i64_w, i32_w]
                  rfl
                 refine done_ (done_of HT_.out (by kernel_rfl)) ?_
                 have hcz32_0 : w31.cell? ⟨gb171, 0, none⟩ = some (.int .i64 ((rd_T52 l1 x43_3).f0)) := (blk_cell BK171.out 0).trans rfl
                 have hcz32_1 : w31.cell? ⟨gb171, 1, none⟩ = some (.int .i64 ((rd_T52 l1 x43_3).f1)) := (blk_cell BK171.out 1).trans rfl
                 have hcz32_2 : w31.cell? ⟨gb171, 2, none⟩ = some (.slice A170_2 ((rd_T52 l1 x43_3).f2).length c170_2) := (blk_cell BK171.out 2).trans rfl
                 have hfz32_0 := blk_frozen BK171.out 0
                 have hfz32_1 := blk_frozen BK171.out 1
                 have hfz32_2 := blk_frozen BK171.out 2
                 try go_wp2
                 go_roundg k3
                 case measure => have := HJ2.out; have := HJ8.out; have := HK3.out; omega
                 case rel => exact ⟨(y176), (wrap64 (((rd_T52 l1 x43_3).f0) + ((rd_T52 l1 x43_3).f1))), (wrap64 (x43_3 + 1)), (by first | rfl | (simp; done) | (simp [*]; done)), (by first | rfl | (simp; done) | (simp [*]; done)), H', ⟨by have := HJ2.out; have := HJ8.out; have := HK3.out; omega⟩, ⟨by (with_reducible repeat (first | apply Kd.R_alloc | apply Kd.R_drewN | apply Kd.R_drew)); exact HO178.out⟩, ⟨by repeat (first | (with_reducible first | exact HB.out | apply below_alloc | apply pw_below_drewN | apply below_drew1 | refine below_set ?_ GE171.out) | exact HB.out)⟩⟩
                ·rw [if_neg c24] at H
                 exact absurd H (by simp)
               ·rw [if_neg c23] at H
                exact absurd H (by simp)
              ·rw [if_neg c22] at H
               exact absurd H (by simp)
             ·rw [if_neg c21] at H
              exact absurd H (by simp)
            ·rw [if_neg c20] at H
             exact absurd H (by simp)
           ·rw [if_neg c19] at H
            exact absurd H (by simp)
          ·rw [if_neg c18] at H
           exact absurd H (by simp)
         ·rw [if_neg c17] at H
          have c17b0 : decide (x43_3 < (l1.length : Int)) = false := decide_eq_false c17
          clear c17
          by_cases c33 : 0 ≤ x8_3
          ·rw [if_pos c33] at H
           have c33b0 := eq_true c33
           have c33b1 : decide (0 ≤ x8_3) = true := decide_eq_true c33
           clear c33
           by_cases c34 : x8_3 ≤ (l0.length : Int)
           ·rw [if_pos c34] at H
            have c34b0 := eq_true c34
            have c34b1 : decide (x8_3 ≤ (l0.length : Int)) = true := decide_eq_true c34
            clear c34
            by_cases c35 : x7_3.length + (l0.drop (x8_3 : Int).toNat).length < 8796093022208
            ·rw [if_pos c35] at H
             have LMc35 := Aside0.mk c35
             clear c35
             obtain ⟨y180, hy180⟩ : ∃ y_ : List ByteArray, y_ = (x7_3 ++ (l0.drop (x8_3 : Int).toNat)) := ⟨_, rfl⟩
             replace H : (if (y180.length : Int) > 4096 then (some (([] : List ByteArray), 6)) else (some (y180, 0))) = some (r1, r2) := by first | (rw [hy180]; with_reducible exact H) | (have H2_ := (Option.bind_some _ _).symm.trans H; rw [hy180]; with_reducible exact H2_) | (have H2_ := (Option.bind_some _ _).symm.trans H; with_reducible exact H2_) | with_reducible exact H | (rw [hy180]; exact H) | exact H
             have Ny180 := Aside0.mk hy180
             clear hy180
             by_cases c36 : (y180.length : Int) > 4096
             ·rw [if_pos c36] at H
              have c36b0 : decide (4096 < (y180.length : Int)) = true := decide_eq_true c36
              have c36b1 : decide (4096 < y180.length) = true := decide_eq_true (by omega)
              clear c36
              simp only [Option.some.injEq, Prod.mk.injEq] at H
              obtain ⟨rfl, rfl⟩ := H
              obtain ⟨i037, hi037, _, hsz37, _⟩ := info_parts info9
              obtain ⟨A37, hcut37, hA37, hC37⟩ := print_drop_of (P := Tryd.prog) Value.string (⟨#[]⟩ : ByteArray) 28 9 .i64 Tryd.underlying28 hi037 hsz37 A0 c0 l0 x8_3 (of_decide_eq_true (by first | (with_reducible assumption) | assumption)) (of_decide_eq_true (by first | (with_reducible assumption) | assumption)) HC0.out
              have HR179 := Aside0.mk (Kd.C_of_reads (h1 := fun _ => rfl) (hA37 _ (Kd.reads_of_C HR0.out)))
              have HC179 := Aside0.mk hC37
              clear hA37 hC37 hi037 hsz37
              go_wp2_with (first | ((with_reducible refine gate_builtin (b := .append) (xs := #[.tmp 63, .tmp 66]) rfl ?_); (try (refine gate_guard (by rfl) ?_; dsimp only)); at_builtin; refine Kd.R_append_rows Kd.string (w0 := w) w.heap.size rfl (.tmp 63) (.tmp 66) 28 9 (.string ⟨#[]⟩) 16 rfl Tryd.underlying28 info9 rfl (by decide) (by omega) u7 x7_3 (l0.drop (x8_3 : Int).toNat) _ _ _ (fun _ => True) (fun _ => False) rfl rfl ?aO ?aR (fun _ _ h => h) (fun _ h => h.elim) ?aF ?aB ?aS ?aL ?_; (case aR => first | (rw [← show (l0.drop (x8_3 : Int).toNat).length = (l0.length - x8_3.toNat) from List.length_drop]; repeat (first | exact (Kd.C_below HR179.out HB.out) | (with_reducible refine Kd.C_alloc ?_ _) | (with_reducible refine Kd.C_drewN ?_ _) | (with_reducible refine Kd.C_drew ?_))) | (repeat (first | exact (Kd.C_below HR179.out HB.out) | (with_reducible refine Kd.C_alloc ?_ _) | (with_reducible refine Kd.C_drewN ?_ _) | (with_reducible refine Kd.C_drew ?_)))); (case aB => exact (by repeat (first | (with_reducible first | exact HB.out | apply below_alloc | apply pw_below_drewN | apply below_drew1) | exact HB.out))); (case aF => exact (fun _ _ => trivial)); (case aO => exact (by (with_reducible repeat (first | apply Kd.R_alloc | apply Kd.R_drewN | apply Kd.R_drew)); exact HO_7.out)); (case aS => exact (below_size (by repeat (first | (with_reducible first | exact HB.out | apply below_alloc | apply pw_below_drewN | apply below_drew1) | exact HB.out)))); (case aL => have := LMc35.out; have hlx_ := (show (l0.drop (x8_3 : Int).toNat).length = (l0.length - x8_3.toNat) from List.length_drop); omega); intro v181 w38 ho hb hg hat; rw [← Ny180.out] at ho; have n0_ := Aside0.mk (hb); have n1_ := Aside0.mk (ho); clear HB; clear HO_7; have HB := n0_; have HO182 := n1_; clear n0_ n1_; clear ho hb hg hat; obtain ⟨Ao39, co39, eo39⟩ := Kd.R_slice HO182.out; subst eo39))
              go_ret2
              exact ⟨_, by first | rfl | (simp [errW_none, errW_some] <;> rfl) | (simp [*, errW_none, errW_some] <;> rfl), by first | exact Kd.R_nil _ _ _ _ _ | exact Kd.N_nil _ _ _ _ _ | exact Kd.V_nil _ _ _ _ _ | exact Kd.Q_nil _ _ _ _ _ | exact Kd.S_nil _ _ _ _ _, by repeat (first | (with_reducible first | exact HB.out | apply below_alloc | apply pw_below_drewN | apply below_drew1) | exact HB.out)⟩
             ·rw [if_neg c36] at H
              have c36b0 : decide (4096 < (y180.length : Int)) = false := decide_eq_false c36
              have c36b1 : decide (4096 < y180.length) = false := decide_eq_false (by omega)
              clear c36
              simp only [Option.some.injEq, Prod.mk.injEq] at H
              obtain ⟨rfl, rfl⟩ := H
              obtain ⟨i040, hi040, _, hsz40, _⟩ := info_parts info9
              obtain ⟨A40, hcut40, hA40, hC40⟩ := print_drop_of (P := Tryd.prog) Value.string (⟨#[]⟩ : ByteArray) 28 9 .i64 Tryd.underlying28 hi040 hsz40 A0 c0 l0 x8_3 (of_decide_eq_true (by first | (with_reducible assumption) | assumption)) (of_decide_eq_true (by first | (with_reducible assumption) | assumption)) HC0.out
              have HR179 := Aside0.mk (Kd.C_of_reads (h1 := fun _ => rfl) (hA40 _ (Kd.reads_of_C HR0.out)))
              have HC179 := Aside0.mk hC40
              clear hA40 hC40 hi040 hsz40
              go_wp2_with (first | ((with_reducible refine gate_builtin (b := .append) (xs := #[.tmp 63, .tmp 66]) rfl ?_); (try (refine gate_guard (by rfl) ?_; dsimp only)); at_builtin; refine Kd.R_append_rows Kd.string (w0 := w) w.heap.size rfl (.tmp 63) (.tmp 66) 28 9 (.string ⟨#[]⟩) 16 rfl Tryd.underlying28 info9 rfl (by decide) (by omega) u7 x7_3 (l0.drop (x8_3 : Int).toNat) _ _ _ (fun _ => True) (fun _ => False) rfl rfl ?aO ?aR (fun _ _ h => h) (fun _ h => h.elim) ?aF ?aB ?aS ?aL ?_; (case aR => first | (rw [← show (l0.drop (x8_3 : Int).toNat).length = (l0.length - x8_3.toNat) from List.length_drop]; repeat (first | exact (Kd.C_below HR179.out HB.out) | (with_reducible refine Kd.C_alloc ?_ _) | (with_reducible refine Kd.C_drewN ?_ _) | (with_reducible refine Kd.C_drew ?_))) | (repeat (first | exact (Kd.C_below HR179.out HB.out) | (with_reducible refine Kd.C_alloc ?_ _) | (with_reducible refine Kd.C_drewN ?_ _) | (with_reducible refine Kd.C_drew ?_)))); (case aB => exact (by repeat (first | (with_reducible first | exact HB.out | apply below_alloc | apply pw_below_drewN | apply below_drew1) | exact HB.out))); (case aF => exact (fun _ _ => trivial)); (case aO => exact (by (with_reducible repeat (first | apply Kd.R_alloc | apply Kd.R_drewN | apply Kd.R_drew)); exact HO_7.out)); (case aS => exact (below_size (by repeat (first | (with_reducible first | exact HB.out | apply below_alloc | apply pw_below_drewN | apply below_drew1) | exact HB.out)))); (case aL => have := LMc35.out; have hlx_ := (show (l0.drop (x8_3 : Int).toNat).length = (l0.length - x8_3.toNat) from List.length_drop); omega); intro v181 w41 ho hb hg hat; rw [← Ny180.out] at ho; have n0_ := Aside0.mk (hb); have n1_ := Aside0.mk (ho); clear HB; clear HO_7; have HB := n0_; have HO182 := n1_; clear n0_ n1_; clear ho hb hg hat; obtain ⟨Ao42, co42, eo42⟩ := Kd.R_slice HO182.out; subst eo42))
              go_ret2
              exact ⟨_, by first | rfl | (simp [errW_none, errW_some] <;> rfl) | (simp [*, errW_none, errW_some] <;> rfl), by (with_reducible repeat (first | apply Kd.R_alloc | apply Kd.R_drewN | apply Kd.R_drew)); exact HO182.out, by repeat (first | (with_reducible first | exact HB.out | apply below_alloc | apply pw_below_drewN | apply below_drew1) | exact HB.out)⟩
            ·rw [if_neg c35] at H
             exact absurd H (by simp)
           ·rw [if_neg c34] at H
            exact absurd H (by simp)
          ·rw [if_neg c33] at H
           exact absurd H (by simp)
end Go.Proofs.YtfpopmojlmpopaaDoor.G

end
section
namespace Go.Proofs.YtfpopmojlmpopaaDoor.L
open Go.RowKit Go.Proofs.YtfpopmojlmpopaaDoorW.PrintWords Go.Proofs.YtfpopmojlmpopaaDoorW.PrintLast Go.Proofs.YtfpopmojlmpopaaDoorW.PrintMore Go.Proofs.YtfpopmojlmpopaaDoor.G Go.Proofs.YtfpopmojlmpopaaDoor.H
set_option linter.unusedVariables false
set_option linter.unusedSimpArgs false
theorem w64i (n : Int) (h : -9223372036854775808 ≤ n ∧ n ≤ 9223372036854775807) : wrap64 n = n := by unfold wrap64; omega
def upto (a : List ByteArray) (n m : Nat) : List ByteArray := (a.take m).drop n
def appFrom (a : List ByteArray) : List ByteArray → Nat → List S52 → List ByteArray
 | out, at_, [] => out ++ a.drop at_
 | out, at_, x :: r => appFrom a (out ++ upto a at_ x.f0.toNat ++ x.f2) (x.f0 + x.f1).toNat r
def fits (a : List ByteArray) (x : S52) : Bool := decide (x.f0 ≤ (a.length : Int) - x.f1)
def capped (o : List ByteArray) : List ByteArray × Int := if (o.length : Int) > 4096 then ([], 6) else (o, 0)
def applyF (a : List ByteArray) (es : List S52) : List ByteArray × Int :=
 if lineE a = 0 then if posE es = true then if es.all (fits a) = true then capped (appFrom a [] 0 es) else ([], 5) else ([], 1) else ([], 1)
structure Good (x : S52) : Prop where
 a0 : 0 ≤ x.f0
 d0 : 0 ≤ x.f1
 d1 : x.f1 ≤ 4096
 l1 : x.f2.length ≤ 4096
theorem lineE_len {l : List ByteArray} (h : lineE l = 0) : l.length ≤ 4096 := by
 unfold lineE at h
 split at h
 ·cases h
 ·omega
theorem okE_good {x : S52} (h : okE x = true) : Good x := by
 simp only [okE, Bool.and_eq_true, decide_eq_true_eq, beq_iff_eq] at h
 exact ⟨h.1.1.1.1, h.1.1.1.2, h.1.1.2, lineE_len h.2⟩
theorem posFrom_good : ∀ {p : Option S52} {es : List S52}, posFrom p es = true → ∀ x ∈ es, Good x
 | _, [], _, x, hx => by cases hx
 | p, y :: r, h, x, hx => by
  simp only [posFrom, Bool.and_eq_true] at h
  rcases List.mem_cons.1 hx with rfl | hx
  ·exact okE_good h.1.1
  ·exact posFrom_good h.2 x hx
theorem next_lt {p x : S52} (hp : Good p) (hx : Good x) (hb : okEdit x) (h : nextOk (some p) x = true) : p.f0 + p.f1 < x.f0 := by
 have h1 : ¬ wrap64 (x.f0 - p.f1) ≤ p.f0 := by simpa [nextOk] using h
 have h2 := hb.1.2
 have e : wrap64 (x.f0 - p.f1) = x.f0 - p.f1 := w64i _ (by have := hp.d0; have := hp.d1; have := hx.a0; omega)
 rw [e] at h1
 omega
theorem all_fit (a : List ByteArray) : ∀ {es : List S52} {p : Option S52}, posFrom p es = true → (∀ x ∈ es, okEdit x) → (h : es ≠ []) → es.all (fits a) = fits a (es.getLast h)
 | [], _, _, _, h => absurd rfl h
 | [x], _, _, _, _ => by simp
 | x :: y :: r, p, hp, hb, _ => by
  have ih := all_fit a (es := y :: r) (p := some x) (by simp only [posFrom, Bool.and_eq_true] at hp ⊢; exact hp.2) (fun z hz => hb z (List.mem_cons_of_mem _ hz)) (by simp)
  rw [List.all_cons, ih, List.getLast_cons (show y :: r ≠ [] by simp)]
  cases hf : fits a ((y :: r).getLast (by simp)) with
  | false => rw [Bool.and_false]
  | true =>
   have hy : (y :: r).all (fits a) = true := by rw [ih, hf]
   rw [List.all_cons, Bool.and_eq_true] at hy
   have h1 : y.f0 ≤ (a.length : Int) - y.f1 := of_decide_eq_true hy.1
   have hg := posFrom_good hp
   have hn := hp
   simp only [posFrom, Bool.and_eq_true] at hn
   have h2 := next_lt (hg x (by simp)) (hg y (by simp)) (hb y (by simp)) hn.2.1.2
   have h3 := (hg y (by simp)).d0
   rw [show fits a x = true from decide_eq_true (by omega)]
   rfl
theorem upto_len (a : List ByteArray) (n m : Nat) : (upto a n m).length ≤ a.length := by
 unfold upto
 rw [List.length_drop, List.length_take]
 omega
def asc : Int → List S52 → Prop
 | _, [] => True
 | n, x :: r => n ≤ x.f0 ∧ asc (x.f0 + x.f1) r
theorem asc_of : ∀ {es : List S52} {p : S52}, posFrom (some p) es = true → Good p → (∀ x ∈ es, okEdit x) → asc (p.f0 + p.f1) es
 | [], _, _, _, _ => trivial
 | x :: r, p, h, hp, hb => by
  have hg := posFrom_good h
  simp only [posFrom, Bool.and_eq_true] at h
  have h1 := next_lt hp (hg x (by simp)) (hb x (by simp)) h.1.2
  exact ⟨by omega, asc_of h.2 (hg x (by simp)) (fun z hz => hb z (List.mem_cons_of_mem _ hz))⟩
theorem asc_none : ∀ {es : List S52}, posFrom none es = true → (∀ x ∈ es, okEdit x) → asc 0 es
 | [], _, _ => trivial
 | x :: r, h, hb => by
  have hg := posFrom_good h
  simp only [posFrom, Bool.and_eq_true] at h
  exact ⟨(hg x (by simp)).a0, asc_of h.2 (hg x (by simp)) (fun z hz => hb z (List.mem_cons_of_mem _ hz))⟩
theorem fits_iff {a : List ByteArray} {x : S52} : fits a x = true ↔ x.f0 ≤ (a.length : Int) - x.f1 := decide_eq_true_iff
theorem fa_l0 (a : List ByteArray) (ha : a.length ≤ 4096) (es : List S52) (he : es.length ≤ 4096) (hg : ∀ x ∈ es, Good x) (hf : es.all (fits a) = true) : ∀ (m i : Nat) (out : List ByteArray) (at_ : Nat), i + m = es.length → at_ ≤ a.length →
  asc at_ (es.drop i) → out.length ≤ 8192 * i → Ev (fun k => frame_Apply.l0 k a out at_ es es.length i) (capped (appFrom a out at_ (es.drop i)))
 | 0, i, out, at_, h, h1, h2, h4 => by
  rw [drop_all es i (by omega), appFrom]
  have hl : (a.drop at_).length ≤ 4096 := by rw [List.length_drop]; omega
  refine Ev.step (f := fun _ => some (capped (out ++ a.drop at_))) (fun k => ?_) (Ev.now _)
  simp only [frame_Apply.l0]
  rw [if_neg (by omega), if_pos (by omega), if_pos (by omega), Int.toNat_natCast, if_pos (by omega)]
  simp only [Option.bind_some, capped]
  split <;> rfl
 | m + 1, i, out, at_, h, h1, h2, h4 => by
  have hi : i < es.length := by omega
  have hd := drop_at es i hi
  have hx := hg es[i] (List.getElem_mem _)
  have hfx := fits_iff.1 (List.all_eq_true.1 hf es[i] (List.getElem_mem _))
  rw [hd] at h2
  obtain ⟨hat, hasc⟩ := h2
  rw [hd, appFrom]
  have hu := upto_len a at_ es[i].f0.toNat
  have hx1 := hx.l1
  have hx2 := hx.a0
  have hx3 := hx.d0
  have e0 : ((es[i].f0 + es[i].f1).toNat : Int) = es[i].f0 + es[i].f1 := by omega
  have e1 : wrap64 (es[i].f0 + es[i].f1) = ((es[i].f0 + es[i].f1).toNat : Int) := by rw [e0]; exact w64i _ (by omega)
  refine Ev.step (f := fun k => frame_Apply.l0 k a (out ++ upto a at_ es[i].f0.toNat ++ es[i].f2) ((es[i].f0 + es[i].f1).toNat : Int) es es.length ((i + 1 : Nat) : Int)) (fun k => ?_) ?_
  ·simp only [frame_Apply.l0]
   rw [rdT_nat es i hi, if_pos (by omega), if_pos (by omega), if_pos (by omega), if_pos (by omega), if_pos hat, if_pos (by omega), Int.toNat_natCast]
   rw [if_pos (by show out.length + (upto a at_ es[i].f0.toNat).length < _; omega)]
   simp only [Option.bind_some]
   rw [if_pos (by show (out ++ upto a at_ es[i].f0.toNat).length + _ < _; rw [List.length_append]; omega), e1, w1 i (by omega)]
   rfl
  ·refine fa_l0 a ha es he hg hf m (i + 1) _ _ (by omega) (by omega) (by rw [e0]; exact hasc) ?_
   rw [List.length_append, List.length_append]
   omega
theorem posE_len {es : List S52} (h : posE es = true) : es.length ≤ 4096 ∧ posFrom none es = true := by
 simpa [posE] using h
theorem apply_ev (a : List ByteArray) (es : List S52) (hb : ∀ x ∈ es, okEdit x) : Ev (fun k => frame_Apply.f k a es) (applyF a es) := by
 unfold frame_Apply.f applyF
 have hj : Ev (fun k => frame_Apply.j0 k a es true) ([], 1) := Ev.step (fun k => by simp only [frame_Apply.j0]; rw [if_pos trivial]) (Ev.now _)
 refine Ev.bind (lineError_ev a) ?_
 by_cases h1 : lineE a = 0
 ·rw [if_pos h1, h1]
  refine Ev.congr (fun k => if_pos rfl) (Ev.bind (possible_ev es) ?_)
  by_cases h2 : posE es = true
  ·rw [if_pos h2, h2]
   obtain ⟨h3, h4⟩ := posE_len h2
   have hg := posFrom_good h4
   have ha := lineE_len h1
   have hj1 : ∀ b : Bool, b = (!(es.all (fits a))) → Ev (fun k => frame_Apply.j1 k a es b) (if es.all (fits a) = true then capped (appFrom a [] 0 es) else ([], 5)) := fun b hbq => by
    by_cases h5 : es.all (fits a) = true
    ·rw [if_pos h5]
     rw [h5] at hbq
     subst hbq
     have h := fa_l0 a ha es h3 hg h5 es.length 0 [] 0 (by omega) (by omega) (by rw [List.drop_zero]; exact asc_none h4 hb) (by simp)
     rw [List.drop_zero] at h
     exact Ev.step (fun k => by simp only [frame_Apply.j1]; rw [if_neg (by decide)]; rfl) h
    ·rw [if_neg h5]
     rw [Bool.not_eq_true] at h5
     rw [h5] at hbq
     subst hbq
     exact Ev.step (fun k => by simp only [frame_Apply.j1]; rw [if_pos (by decide)]) (Ev.now _)
   rcases Nat.eq_zero_or_pos es.length with h0 | h0
   ·have hn : es = [] := List.length_eq_zero_iff.1 h0
    refine Ev.step (fun k => by simp only [frame_Apply.j0]; rw [if_neg (by decide), if_neg (by omega)]) (hj1 false (by rw [hn]; rfl))
   ·have hne : es ≠ [] := fun h => by rw [h] at h0; exact absurd h0 (by simp)
    have hl : es[es.length - 1]'(by omega) = es.getLast hne := (List.getLast_eq_getElem hne).symm
    have hall := all_fit a h4 hb hne
    rw [← hl] at hall
    have hx := hg (es[es.length - 1]'(by omega)) (List.getElem_mem _)
    have hx3 := hx.d0
    have hx4 := hx.d1
    have ew : wrap64 ((a.length : Int) - (es[es.length - 1]'(by omega)).f1) = (a.length : Int) - (es[es.length - 1]'(by omega)).f1 := w64i _ (by omega)
    refine Ev.step (fun k => by
     simp only [frame_Apply.j0]
     rw [if_neg (by decide), if_pos (by omega), wm es.length h0 (by omega), if_pos (by omega), if_pos (by omega), rdT_nat es (es.length - 1) (by omega), ew]) (hj1 _ ?_)
    rw [hall]
    unfold fits
    rw [← decide_not]
    exact decide_eq_decide.2 (by omega)
  ·rw [if_neg h2]
   rw [Bool.not_eq_true] at h2
   rw [h2]
   exact hj
 ·rw [if_neg h1]
  exact Ev.congr (fun k => if_neg h1) hj
end Go.Proofs.YtfpopmojlmpopaaDoor.L

end
section
namespace Go.Proofs.YtfpopmojlmpopaaDoor.H
open Go.RowKit Go.Proofs.YtfpopmojlmpopaaDoorW.PrintWords Go.Proofs.YtfpopmojlmpopaaDoorW.PrintLast Go.Proofs.YtfpopmojlmpopaaDoorW.PrintMore Go.Proofs.YtfpopmojlmpopaaDoor.G
set_option linter.unusedVariables false
set_option linter.unusedSimpArgs false
abbrev SE (W : World) (b : Nat) (ok : Nat → Prop) (v : Value) (out : List S52) : Prop := Kd.S k52 52 W b ok v out
section
variable {W W1 w : World} {b g n cap : Nat} {v : Value} {out : List S52}
theorem se_typed {W : World} {b : Nat} {ok : Nat → Prop} {v : Value} {out : List S52} (h : SE W b ok v out) : ∀ k, v.ownBlock = some k → ∃ cells, W.heap[k]? = some (.cells cells 52 (0, 0)) := Kd.S_typed h
theorem rows_grown {α : Type} {d : Kd α} {e : Nat} {W W1 : World} {b : Nat} {vT : Value} {T : List α} {row : Option Nat} (t : Nat) (hT : Kd.S d e W b (fun _ => True) vT T) (hg : W.grownBy W1 row) (hr : ∀ k, row = some k → ∃ cells, W.heap[k]? = some (.cells cells t (0, 0))) (ht : ∀ q, q ∈ e :: d.E → q ≠ t) : Kd.S d e W1 b (fun _ => True) vT T :=
 Kd.S_mono (Kd.S_grown (Kd.S_bound hT) hg (fun k hk he => by
  obtain ⟨_, _, _, q, hq, cells, hc⟩ := hk
  obtain ⟨cells', hc'⟩ := hr k he.symm
  rw [hc] at hc'
  injection hc' with hc'; injection hc' with _ h2 _
  exact ht q hq h2)) (fun _ _ => trivial)
theorem own_ne9 {W : World} {b g : Nat} {ok : Nat → Prop} {v : Value} {l : List ByteArray} {cz : Array Value} (h : Kd.R Kd.string 9 W b ok v l) (hz : W.heap[g]? = some (.cells cz 52 (0, 0))) : some g ≠ v.ownBlock := by
 intro he
 obtain ⟨inner, ho⟩ := Kd.R_own h
 obtain ⟨cells, hc⟩ := own_typed ho g he.symm
 rw [hz] at hc
 injection hc with hc; injection hc with _ h2 _
 exact absurd h2 (by decide)
theorem last_get (hS : SE W b (fun _ => True) (.slice (some ⟨g, 0, none⟩) n cap) out) (hn : 0 < out.length) :
  ∃ (oki : Nat → Prop) (v2 : Value), Kd.R Kd.string 9 W b oki v2 (rd_T52 out ((n : Int) - 1)).f2 ∧ (∀ k, oki k → k < W.heap.size) ∧
   Kd.H k52 52 W b (fun k => True ∧ ¬ (W.heap.size ≤ k)) (.slice (some ⟨g, 0, none⟩) n cap) out ((n : Int) - 1) oki [.int .i64 (rd_T52 out ((n : Int) - 1)).f0, .int .i64 (rd_T52 out ((n : Int) - 1)).f1, v2] := by
 have hlen := (Kd.S_reads' hS).1
 have hS' : SE W b (fun k => True ∧ ¬ (W.heap.size ≤ k)) (.slice (some ⟨g, 0, none⟩) n cap) out := Kd.S_mono (Kd.S_bound hS) (fun k hk => ⟨trivial, by have := hk.2.2.1; omega⟩)
 obtain ⟨oki, c, hcl, hM, hcc, hoki, hH⟩ := Kd.S_lend hS' z52 ((n : Int) - 1) (by omega) (by omega)
 obtain ⟨v2, rfl, hR⟩ := k52_openM hM
 exact ⟨oki, v2, hR, fun k hk => by have := (hoki k hk).1.2; omega, hH⟩
theorem last_cells {W : World} {ok oki : Nat → Prop} {c0 c1 c2 : Value} (hH : Kd.H k52 52 W b ok (.slice (some ⟨g, 0, none⟩) n cap) out ((n : Int) - 1) oki [c0, c1, c2]) (hn : 0 < n) :
  W.cell? ⟨g, (n - 1) * 3, none⟩ = some c0 ∧ W.cell? ⟨g, (n - 1) * 3 + 1, none⟩ = some c1 ∧ W.cell? ⟨g, (n - 1) * 3 + 2, none⟩ = some c2 ∧ ∀ j, W.frozen? ⟨g, (n - 1) * 3 + j, none⟩ = false := by
 have hi : ((n : Int) - 1).toNat = n - 1 := by omega
 obtain ⟨h1, h2⟩ := Kd.H_at hH (by omega) (by omega)
 rw [hi, show k52.sz = 3 from rfl] at h1 h2
 exact ⟨h1 0 _ rfl, h1 1 _ rfl, h1 2 _ rfl, h2⟩
def bumpE (out : List S52) (n : Nat) (x : Int) : List S52 := out.set (n - 1) ⟨(rd_T52 out ((n : Int) - 1)).f0, x, (rd_T52 out ((n : Int) - 1)).f2⟩
def addE (out : List S52) (n : Nat) (l : List ByteArray) : List S52 := out.set (n - 1) ⟨(rd_T52 out ((n : Int) - 1)).f0, (rd_T52 out ((n : Int) - 1)).f1, l⟩
theorem last_bump {oki : Nat → Prop} {v2 : Value} (hn : 0 < n) (hR : Kd.R Kd.string 9 W b oki v2 (rd_T52 out ((n : Int) - 1)).f2)
  (hH : Kd.H k52 52 W b (fun k => True ∧ ¬ (W.heap.size ≤ k)) (.slice (some ⟨g, 0, none⟩) n cap) out ((n : Int) - 1) oki [.int .i64 (rd_T52 out ((n : Int) - 1)).f0, .int .i64 (rd_T52 out ((n : Int) - 1)).f1, v2]) (x : Int) :
  SE (W.setCell ⟨g, (n - 1) * 3 + 1, none⟩ (.int .i64 x)) b (fun _ => True) (.slice (some ⟨g, 0, none⟩) n cap) (bumpE out n x) := by
 have hi : ((n : Int) - 1).toNat = n - 1 := by omega
 have h := (Kd.S_seg0 hH (by omega) (by omega) (seg := [.int .i64 x]) (j := 1) (show 1 + 1 ≤ 3 from by decide) (x' := ⟨(rd_T52 out ((n : Int) - 1)).f0, x, (rd_T52 out ((n : Int) - 1)).f2⟩) (k52_mkM W b oki _ hR) (fun _ hk => hk)).1
 rw [hi] at h
 exact Kd.S_mono h (fun _ _ => trivial)
theorem last_add {oki : Nat → Prop} {v2 v3 : Value} {l : List ByteArray} (hn : 0 < n) (hlt : ∀ k, oki k → k < W.heap.size) (hg : W.grownBy W1 v2.ownBlock) (hR0 : Kd.R Kd.string 9 W b oki v2 (rd_T52 out ((n : Int) - 1)).f2)
  (hR : Kd.R Kd.string 9 W1 b (fun k => oki k ∨ W.heap.size ≤ k) v3 l)
  (hH : Kd.H k52 52 W b (fun k => True ∧ ¬ (W.heap.size ≤ k)) (.slice (some ⟨g, 0, none⟩) n cap) out ((n : Int) - 1) oki [.int .i64 (rd_T52 out ((n : Int) - 1)).f0, .int .i64 (rd_T52 out ((n : Int) - 1)).f1, v2])
  (hgl : g < W.heap.size) :
  SE (W1.setCell ⟨g, (n - 1) * 3 + 2, none⟩ v3) b (fun _ => True) (.slice (some ⟨g, 0, none⟩) n cap) (addE out n l) := by
 have hi : ((n : Int) - 1).toNat = n - 1 := by omega
 have hH1 := Kd.H_grown hH hg (fun k hk => hR0.1 k hk)
 have h := (Kd.S_seg (ok := fun _ => True) (okg := fun k => W.heap.size ≤ k) (by exact hH1) (by omega) (by omega) (seg := [v3]) (j := 2) (show 2 + 1 ≤ 3 from by decide) (x' := (⟨(rd_T52 out ((n : Int) - 1)).f0, (rd_T52 out ((n : Int) - 1)).f1, l⟩ : S52)) (k52_mkM W1 b _ _ hR) (fun _ hk => hk) (fun k hk => ⟨trivial, by omega⟩)).1
 rw [hi] at h
 exact h
end
end Go.Proofs.YtfpopmojlmpopaaDoor.H

end
section
namespace Go.Proofs.YtfpopmojlmpopaaDoor.H
open Go.RowKit Go.Proofs.YtfpopmojlmpopaaDoorW.PrintWords Go.Proofs.YtfpopmojlmpopaaDoorW.PrintLast Go.Proofs.YtfpopmojlmpopaaDoorW.PrintMore
set_option linter.unusedVariables false
set_option linter.unusedSimpArgs false
def isDig (b : UInt8) : Bool := decide (48 ≤ b.toNat) && decide (b.toNat ≤ 57)
def dEnd (s : ByteArray) (i : Nat) : Nat := i + ((s.data.toList.drop i).takeWhile isDig).length
def okNum (d : ByteArray) : Bool := (d.toList == [48]) || ((d.toList != []) && (bt d 0 != 48))
theorem tw_in (p : UInt8 → Bool) (l : List UInt8) (j : Nat) (h : j < (l.takeWhile p).length) : ∃ h' : j < l.length, p l[j] = true := by
 induction l generalizing j with
 | nil => simp at h
 | cons x l ih =>
  by_cases hx : p x = true
  ·rw [List.takeWhile_cons_of_pos hx] at h
   cases j with
   | zero => exact ⟨by simp, hx⟩
   | succ j => obtain ⟨h1, h2⟩ := ih j (by simpa using h); exact ⟨by simpa using h1, h2⟩
  ·rw [List.takeWhile_cons_of_neg hx] at h; simp at h
theorem tw_stop (p : UInt8 → Bool) (l : List UInt8) (h : (l.takeWhile p).length < l.length) : p (l[(l.takeWhile p).length]) = false := by
 induction l with
 | nil => simp at h
 | cons x l ih =>
  by_cases hx : p x = true
  ·have e := List.takeWhile_cons_of_pos (l := l) hx
   simp only [e, List.length_cons] at h ⊢
   simpa using ih (by omega)
  ·have e := List.takeWhile_cons_of_neg (l := l) hx
   simp only [e, List.length_nil, List.getElem_cons_zero]
   simpa using hx
theorem tw_le (p : UInt8 → Bool) (l : List UInt8) : (l.takeWhile p).length ≤ l.length := (List.takeWhile_sublist p).length_le
theorem size_list (s : ByteArray) : s.data.toList.length = s.size := by rw [Array.length_toList]; rfl
theorem bt_nat (s : ByteArray) (k : Nat) (h : k < s.size) : bt s (k : Int) = ((s.data.toList[k]'(by rw [size_list]; exact h)).toNat : Int) := by
 have h' : ((k : Int)).toNat < s.size := by rw [Int.toNat_natCast]; exact h
 unfold bt
 rw [dif_pos h']
 rfl
theorem dEnd_ge (s : ByteArray) (i : Nat) : i ≤ dEnd s i := by unfold dEnd; omega
theorem dEnd_le (s : ByteArray) (i : Nat) (h : i ≤ s.size) : dEnd s i ≤ s.size := by
 have := tw_le isDig (s.data.toList.drop i)
 rw [List.length_drop, size_list] at this
 unfold dEnd; omega
theorem dEnd_in (s : ByteArray) (i k : Nat) (h1 : i ≤ k) (h2 : k < dEnd s i) : k < s.size ∧ 48 ≤ bt s k ∧ bt s k ≤ 57 := by
 obtain ⟨h3, h4⟩ := tw_in isDig (s.data.toList.drop i) (k - i) (by unfold dEnd at h2; omega)
 have h5 : k < s.size := by rw [List.length_drop, size_list] at h3; omega
 refine ⟨h5, ?_⟩
 rw [bt_nat s k h5]
 simp only [List.getElem_drop, show i + (k - i) = k from by omega, isDig, Bool.and_eq_true, decide_eq_true_eq] at h4
 omega
theorem dEnd_stop (s : ByteArray) (i : Nat) (h : dEnd s i < s.size) : ¬ (48 ≤ bt s (dEnd s i : Nat) ∧ bt s (dEnd s i : Nat) ≤ 57) := by
 have h1 : ((s.data.toList.drop i).takeWhile isDig).length < (s.data.toList.drop i).length := by rw [List.length_drop, size_list]; unfold dEnd at h; omega
 have h2 := tw_stop isDig (s.data.toList.drop i) h1
 rw [bt_nat s _ h]
 simp only [List.getElem_drop, isDig, Bool.and_eq_false_iff, decide_eq_false_iff_not] at h2
 unfold dEnd
 omega
theorem bytes_ne (d : ByteArray) (l : List UInt8) (b : ByteArray) (hb : b.data.toList = l) (h : d ≠ b) : (d.toList == l) = false := by
 rw [ByteArray.toList_eq, beq_eq_false_iff_ne, ← hb]
 intro hc
 apply h
 obtain ⟨⟨x⟩⟩ := d
 obtain ⟨⟨y⟩⟩ := b
 simp only at hc
 rw [hc]
theorem okNum_48 : okNum ⟨#[48]⟩ = true := by simp [okNum, ByteArray.toList_eq]
theorem okNum_0 : okNum ⟨#[]⟩ = false := by simp [okNum, ByteArray.toList_eq]
theorem okNum_any (d : ByteArray) (h1 : (d.toList == [48]) = false) (h2 : (d.toList == []) = false) (h3 : 0 < d.size) : okNum d = (((d[0]'h3).toNat : Int) != 48) := by
 have h := bt_at d 0 h3
 show ((d.toList == [48]) || ((!(d.toList == [])) && !(bt d 0 == 48))) = _
 rw [h1, h2, ← h]
 rfl
set_option maxRecDepth 100000 in
set_option maxHeartbeats 1000000 in
theorem encode_digits_calls (s : ByteArray) (i : Nat) (hi : i ≤ s.size) (hs : s.size ≤ 140737488355328) (w : World) :
  Calls Tryd.prog 69 #[.string s, .int .i64 i] w fun e w' => e = .returned (.tuple #[.string (s.extract i (dEnd s i)), .bool (okNum (s.extract i (dEnd s i)))]) ∧ Drawn0 w w' := by
 have hde := dEnd_le s i hi
 have hge := dEnd_ge s i
 have HIN := Lib.hid (dEnd_in s i)
 have HST := Lib.hid (dEnd_stop s i)
 obtain ⟨n, hn⟩ : ∃ n, dEnd s i = n := ⟨_, rfl⟩
 rw [hn] at hde hge HIN HST ⊢
 clear hn
 go_enter Tryd.func69, Tryd.ntmps69
 go_wp2_with fail
 go_loop [6] (fun v => ∃ k : Nat, i ≤ k ∧ k ≤ n ∧ v = .int .i64 k) (fun v => n - (intOf v).toNat)
 case atStart => exact ⟨i, Nat.le_refl _, hge, rfl⟩
 case round =>
  obtain ⟨k, hk0, hk1, rfl⟩ := hrel
  by_cases hlt : k < n
  ·obtain ⟨hks, hb0, hb1⟩ := HIN.out k hk0 hlt
   have c1 : decide ((k : Int) < (s.size : Int)) = true := decide_eq_true (by omega)
   have c2 := eq_true (show (0 : Int) ≤ (k : Int) from by omega)
   have c3 := eq_true (show (k : Int) < (s.size : Int) from by omega)
   have hx : ((s[k]'hks).toNat : Int) = bt s (k : Int) := by simpa using bt_at s (k : Int) (by simpa using hks)
   have d0 : decide (48 ≤ ((s[k]'hks).toNat : Int)) = true := decide_eq_true (by omega)
   have d1 : decide (((s[k]'hks).toNat : Int) ≤ 57) = true := decide_eq_true (by omega)
   have d0' := eq_true (show 48 ≤ ((s[k]'hks).toNat : Int) from by omega)
   have d1' := eq_true (show ((s[k]'hks).toNat : Int) ≤ 57 from by omega)
   have d2' := eq_false (show ¬ (57 < ((s[k]'hks).toNat : Int)) from by omega)
   go_wp2_with fail
   go_round
   case rel => exact ⟨k + 1, by omega, by omega, by go_num⟩
   case measure => simp [intOf]; omega
  ·obtain rfl : k = n := by omega
   have e0 := eq_true (show (0 : Int) ≤ (i : Int) from by omega)
   have e1 := eq_true (show (i : Int) ≤ (k : Int) from by omega)
   have e2 := eq_true (show (k : Int) ≤ (s.size : Int) from by omega)
   have e0' := decide_eq_true (show (0 : Int) ≤ (i : Int) from by omega)
   have e1' := decide_eq_true (show (i : Int) ≤ (k : Int) from by omega)
   have e2' := decide_eq_true (show (k : Int) ≤ (s.size : Int) from by omega)
   obtain ⟨d, hd⟩ : ∃ d, s.extract i k = d := ⟨_, rfl⟩
   rcases (show k = s.size ∨ (∃ h : k < s.size, ((s[k]'h).toNat : Int) < 48) ∨ (∃ h : k < s.size, 48 ≤ ((s[k]'h).toNat : Int) ∧ 57 < ((s[k]'h).toNat : Int)) from by
    by_cases hks : k < s.size
    ·have hx : ((s[k]'hks).toNat : Int) = bt s (k : Int) := by simpa using bt_at s (k : Int) (by simpa using hks)
     have := HST.out hks
     by_cases h48 : ((s[k]'hks).toNat : Int) < 48
     ·exact .inr (.inl ⟨hks, h48⟩)
     ·exact .inr (.inr ⟨hks, by omega, by omega⟩)
    ·exact .inl (by omega)) with hz | ⟨hz, hz1⟩ | ⟨hz, hz1, hz2⟩
   ·have z1 : decide ((k : Int) < (s.size : Int)) = false := decide_eq_false (by omega)
    subst hz
    go_wp2_with fail
    rcases Classical.em (d = ⟨#[48]⟩) with r1 | r1
    ·subst r1
     go_quiet (fail)
     go_wp2_with fail
     go_ret2
     exact ⟨by rw [hd, okNum_48]; rfl, _, rfl⟩
    ·have r2 : (d.toList == [48]) = false := bytes_ne d [48] ⟨#[48]⟩ rfl r1
     rcases Classical.em (d = ⟨#[]⟩) with r3 | r3
     ·subst r3
      go_quiet (fail)
      go_wp2_with fail
      go_ret2
      exact ⟨by rw [hd, okNum_0]; rfl, _, rfl⟩
     ·have r4 : (d.toList == []) = false := bytes_ne d [] ⟨#[]⟩ rfl r3
      have r5 : 0 < d.size := Nat.pos_of_ne_zero fun h => r3 (by
       cases d with | mk d => simp only [ByteArray.size] at h; rw [Array.eq_empty_of_size_eq_zero h])
      have r6 := eq_true r5
      have r7 := bt_at d 0 r5
      go_quiet (fail)
      go_wp2_with fail
      go_ret2
      exact ⟨by rw [hd, okNum_any d r2 r4 r5]; rfl, _, rfl⟩
   ·have z1 : decide ((k : Int) < (s.size : Int)) = true := decide_eq_true (by omega)
    have z2 : decide (48 ≤ ((s[k]'hz).toNat : Int)) = false := decide_eq_false (by omega)
    go_wp2_with fail
    rcases Classical.em (d = ⟨#[48]⟩) with r1 | r1
    ·subst r1
     go_quiet (fail)
     go_wp2_with fail
     go_ret2
     exact ⟨by rw [hd, okNum_48]; rfl, _, rfl⟩
    ·have r2 : (d.toList == [48]) = false := bytes_ne d [48] ⟨#[48]⟩ rfl r1
     rcases Classical.em (d = ⟨#[]⟩) with r3 | r3
     ·subst r3
      go_quiet (fail)
      go_wp2_with fail
      go_ret2
      exact ⟨by rw [hd, okNum_0]; rfl, _, rfl⟩
     ·have r4 : (d.toList == []) = false := bytes_ne d [] ⟨#[]⟩ rfl r3
      have r5 : 0 < d.size := Nat.pos_of_ne_zero fun h => r3 (by
       cases d with | mk d => simp only [ByteArray.size] at h; rw [Array.eq_empty_of_size_eq_zero h])
      have r6 := eq_true r5
      have r7 := bt_at d 0 r5
      go_quiet (fail)
      go_wp2_with fail
      go_ret2
      exact ⟨by rw [hd, okNum_any d r2 r4 r5]; rfl, _, rfl⟩
   ·have z1 : decide ((k : Int) < (s.size : Int)) = true := decide_eq_true (by omega)
    have z2 : decide (48 ≤ ((s[k]'hz).toNat : Int)) = true := decide_eq_true (by omega)
    have z3 : decide (((s[k]'hz).toNat : Int) ≤ 57) = false := decide_eq_false (by omega)
    go_wp2_with fail
    rcases Classical.em (d = ⟨#[48]⟩) with r1 | r1
    ·subst r1
     go_quiet (fail)
     go_wp2_with fail
     go_ret2
     exact ⟨by rw [hd, okNum_48]; rfl, _, rfl⟩
    ·have r2 : (d.toList == [48]) = false := bytes_ne d [48] ⟨#[48]⟩ rfl r1
     rcases Classical.em (d = ⟨#[]⟩) with r3 | r3
     ·subst r3
      go_quiet (fail)
      go_wp2_with fail
      go_ret2
      exact ⟨by rw [hd, okNum_0]; rfl, _, rfl⟩
     ·have r4 : (d.toList == []) = false := bytes_ne d [] ⟨#[]⟩ rfl r3
      have r5 : 0 < d.size := Nat.pos_of_ne_zero fun h => r3 (by
       cases d with | mk d => simp only [ByteArray.size] at h; rw [Array.eq_empty_of_size_eq_zero h])
      have r6 := eq_true r5
      have r7 := bt_at d 0 r5
      go_quiet (fail)
      go_wp2_with fail
      go_ret2
      exact ⟨by rw [hd, okNum_any d r2 r4 r5]; rfl, _, rfl⟩
end Go.Proofs.YtfpopmojlmpopaaDoor.H

end
