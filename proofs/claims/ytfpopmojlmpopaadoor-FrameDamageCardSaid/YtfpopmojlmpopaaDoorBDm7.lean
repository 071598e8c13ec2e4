/-
  Part 7 of the proof: words about memory and rows, functions of the program as Lean functions with the contracts that its code comes to just their answers, and plain lemmas; no conditions of its own.
-/
import Derived.Lib.ItoaLen
import Derived.Test.YtfpopmojlmpopaaDoorBDm1
import Derived.Test.YtfpopmojlmpopaaDoorBDm2
import Derived.Test.YtfpopmojlmpopaaDoorBDm3
import Derived.Test.YtfpopmojlmpopaaDoorBDm5
import Derived.Test.YtfpopmojlmpopaaDoorBDm6
section
namespace Go.Proofs.YtfpopmojlmpopaaDoor.L
open Go.RowKit Go.Proofs.YtfpopmojlmpopaaDoorW.PrintWords Go.Proofs.YtfpopmojlmpopaaDoorW.PrintLast Go.Proofs.YtfpopmojlmpopaaDoorW.PrintMore Go.Proofs.YtfpopmojlmpopaaDoor.G Go.Proofs.YtfpopmojlmpopaaDoor.H
set_option linter.unusedVariables false
set_option linter.unusedSimpArgs false
def upto (a : List ByteArray) (n m : Nat) : List ByteArray := (a.take m).drop n
structure Good (x : S52) : Prop where
 a0 : 0 ≤ x.f0
 d0 : 0 ≤ x.f1
 d1 : x.f1 ≤ 4096
 l1 : x.f2.length ≤ 4096
theorem lineE_len {l : List ByteArray} (h : lineE l = 0) : l.length ≤ 4096 := by
 unfold lineE at h
 split at h
 ·cases h
 ·omega
theorem okE_good {x : S52} (h : okE x = true) : Good x := by
 simp only [okE, Bool.and_eq_true, decide_eq_true_eq, beq_iff_eq] at h
 exact ⟨h.1.1.1.1, h.1.1.1.2, h.1.1.2, lineE_len h.2⟩
theorem posE_len {es : List S52} (h : posE es = true) : es.length ≤ 4096 ∧ posFrom none es = true := by
 simpa [posE] using h
end Go.Proofs.YtfpopmojlmpopaaDoor.L

end
section
namespace Go.Proofs.YtfpopmojlmpopaaDoor.L
open Go.RowKit Go.Proofs.YtfpopmojlmpopaaDoorW.PrintWords Go.Proofs.YtfpopmojlmpopaaDoorW.PrintLast Go.Proofs.YtfpopmojlmpopaaDoorW.PrintMore Go.Proofs.YtfpopmojlmpopaaDoor.G Go.Proofs.YtfpopmojlmpopaaDoor.H
set_option linter.unusedVariables false
set_option linter.unusedSimpArgs false
def stp (s : BitVec 16) : BitVec 16 := if s.msb = true then (s <<< 1) ^^^ 4129#16 else s <<< 1
def itb : Nat → BitVec 16 → BitVec 16
 | 0, s => s
 | n + 1, s => stp (itb n s)
theorem x4 (a b p : BitVec 16) : a ^^^ b = (a ^^^ p) ^^^ (b ^^^ p) := by
 ext i h
 simp only [BitVec.getElem_xor]
 cases a[i] <;> cases b[i] <;> cases p[i] <;> rfl
theorem x3 (a b p : BitVec 16) : (a ^^^ b) ^^^ p = (a ^^^ p) ^^^ b := by
 ext i h
 simp only [BitVec.getElem_xor]
 cases a[i] <;> cases b[i] <;> cases p[i] <;> rfl
theorem stp_xor (s t : BitVec 16) : stp (s ^^^ t) = stp s ^^^ stp t := by
 unfold stp
 rw [BitVec.msb_xor, BitVec.shiftLeft_xor_distrib]
 cases s.msb <;> cases t.msb
 ·rw [if_neg (by decide), if_neg (by decide), if_neg (by decide)]
 ·rw [if_pos (by decide), if_neg (by decide), if_pos (by decide), BitVec.xor_assoc]
 ·rw [if_pos (by decide), if_pos (by decide), if_neg (by decide)]
  exact x3 _ _ _
 ·rw [if_neg (by decide), if_pos (by decide), if_pos (by decide)]
  exact x4 _ _ _
theorem itb_xor : ∀ (n : Nat) (s t : BitVec 16), itb n (s ^^^ t) = itb n s ^^^ itb n t
 | 0, _, _ => rfl
 | n + 1, s, t => by rw [itb, itb, itb, itb_xor n, stp_xor]
theorem stp_zero : stp 0#16 = 0#16 := by decide
theorem itb_zero : ∀ n : Nat, itb n 0#16 = 0#16
 | 0 => rfl
 | n + 1 => by rw [itb, itb_zero n, stp_zero]
theorem stp_ne {s : BitVec 16} (h : stp s = 0#16) : s = 0#16 := by
 unfold stp at h
 have h0 : ∀ t : BitVec 16, ((t <<< 1) ^^^ 4129#16).getLsbD 0 = true := fun t => by
  simp
 cases hm : s.msb with
 | true =>
  rw [hm, if_pos rfl] at h
  have := h0 s
  rw [h] at this
  simp at this
 | false =>
  rw [hm, if_neg (by decide)] at h
  apply BitVec.eq_of_getLsbD_eq
  intro i hi
  rcases Nat.lt_or_ge i 15 with h1 | h1
  ·have h2 : (s <<< 1).getLsbD (i + 1) = (0#16).getLsbD (i + 1) := by rw [h]
   rw [BitVec.getLsbD_shiftLeft] at h2
   simp at h2
   have h3 := h2 (by omega)
   simpa using h3
  ·obtain rfl : i = 15 := by omega
   have h2 : s.msb = s.getLsbD 15 := by rw [BitVec.msb_eq_getLsbD_last]
   rw [← h2, hm]
   simp
theorem itb_ne : ∀ (n : Nat) {s : BitVec 16}, itb n s = 0#16 → s = 0#16
 | 0, _, h => h
 | n + 1, _, h => itb_ne n (stp_ne h)
theorem itb_add : ∀ (n m : Nat) (s : BitVec 16), itb (n + m) s = itb n (itb m s)
 | 0, m, s => by rw [Nat.zero_add]; rfl
 | n + 1, m, s => by rw [Nat.succ_add, itb, itb, itb_add n]
def byt (s x : BitVec 16) : BitVec 16 := itb 8 (s ^^^ (x <<< 8))
theorem byt_xor (s t x y : BitVec 16) : byt (s ^^^ t) (x ^^^ y) = byt s x ^^^ byt t y := by
 unfold byt
 rw [← itb_xor, BitVec.shiftLeft_xor_distrib]
 congr 1
 ext i h
 simp only [BitVec.getElem_xor]
 cases s[i] <;> cases t[i] <;> cases (x <<< 8)[i] <;> cases (y <<< 8)[i] <;> rfl
theorem low8 (s : BitVec 16) : itb 8 (s &&& 255#16) = s <<< 8 := by
 have h : ∀ n : Fin 256, itb 8 (BitVec.ofNat 16 n.val) = BitVec.ofNat 16 n.val <<< 8 := by decide +kernel
 have h1 := h ⟨(s &&& 255#16).toNat, by
  rw [BitVec.toNat_and]
  exact Nat.lt_of_le_of_lt Nat.and_le_right (by decide)⟩
 simp only [BitVec.ofNat_toNat, BitVec.setWidth_eq] at h1
 rw [h1]
 apply BitVec.eq_of_getLsbD_eq
 intro i hi
 simp only [BitVec.getLsbD_shiftLeft, BitVec.getLsbD_and]
 by_cases h2 : i < 8
 ·simp [h2]
 ·have h3 : (255#16).getLsbD (i - 8) = true := by
   have : ∀ j : Fin 8, (255#16).getLsbD j.val = true := by decide
   exact this ⟨i - 8, by omega⟩
  simp [h3]
theorem split8 (s x : BitVec 16) : s ^^^ (x <<< 8) = (((s >>> 8) ^^^ x) <<< 8) ^^^ (s &&& 255#16) := by
 apply BitVec.eq_of_getLsbD_eq
 intro i hi
 simp only [BitVec.getLsbD_xor, BitVec.getLsbD_shiftLeft, BitVec.getLsbD_and, BitVec.getLsbD_ushiftRight]
 by_cases h2 : i < 8
 ·have h3 : (255#16).getLsbD i = true := by
   have : ∀ j : Fin 8, (255#16).getLsbD j.val = true := by decide
   exact this ⟨i, h2⟩
  simp [h2, h3]
 ·have h3 : (255#16).getLsbD i = false := by
   have : ∀ j : Fin 16, 8 ≤ j.val → (255#16).getLsbD j.val = false := by decide
   exact this ⟨i, hi⟩ (by show 8 ≤ i; omega)
  have h4 : 8 + (i - 8) = i := by omega
  rw [h3, h4, Bool.and_false, Bool.xor_false, decide_eq_true hi, decide_eq_false h2, Bool.not_false, Bool.true_and, Bool.true_and, Bool.true_and]
theorem byt_tab (s x : BitVec 16) : byt s x = (s <<< 8) ^^^ itb 8 (((s >>> 8) ^^^ x) <<< 8) := by
 unfold byt
 rw [split8, itb_xor, low8, BitVec.xor_comm]
def crcB (s : BitVec 16) (l : List (BitVec 16)) : BitVec 16 := l.foldl byt s
def Z (s : BitVec 16) : Int := (s.toNat : Int)
theorem Z_inj {s t : BitVec 16} (h : Z s = Z t) : s = t := BitVec.eq_of_toNat_eq (by unfold Z at h; omega)
theorem Z_xor (s t : BitVec 16) : bits .xor .u16 (Z s) (Z t) = Z (s ^^^ t) := by
 unfold Z
 rw [u16_xor_nat _ _ s.isLt t.isLt, BitVec.toNat_xor]
theorem Z_shl (s : BitVec 16) (n : Nat) : IntKind.u16.wrap (Z s * (2 ^ n : Nat)) = Z (s <<< n) := by
 unfold Z
 rw [IntKind.wrap_u16, BitVec.toNat_shiftLeft, Nat.shiftLeft_eq]
 generalize 2 ^ n = m
 rw [Int.natCast_emod, Int.natCast_mul]
 rfl
theorem Z_msb (s : BitVec 16) : (bits BinOp.and IntKind.u16 (Z s) 32768 != 0) = s.msb := by
 have h : bits BinOp.and IntKind.u16 (Z s) 32768 = ((s.toNat &&& 32768 : Nat) : Int) := u16_and_nat _ _ s.isLt (by decide)
 have h3 : s.msb = s.toNat.testBit 15 := by rw [BitVec.msb_eq_getLsbD_last]; rfl
 have h2 : ∀ i, (s.toNat &&& 32768).testBit i = (s.toNat.testBit i && decide (15 = i)) := fun i => by
  rw [Nat.testBit_and, show 32768 = 2 ^ 15 from rfl, Nat.testBit_two_pow]
 rw [h, h3]
 cases hb : s.toNat.testBit 15 with
 | false =>
  have h4 : s.toNat &&& 32768 = 0 := Nat.eq_of_testBit_eq fun i => by
   rw [h2, Nat.zero_testBit]
   by_cases h5 : 15 = i
   ·subst h5
    rw [hb, Bool.false_and]
   ·rw [decide_eq_false h5, Bool.and_false]
  rw [h4]
  rfl
 | true =>
  have h4 : s.toNat &&& 32768 ≠ 0 := fun h5 => by
   have h6 := h2 15
   rw [h5, hb, Nat.zero_testBit] at h6
   cases h6
  exact bne_iff_ne.2 (by omega)
theorem stepc_Z (s : BitVec 16) : stepc (Z s) = Z (stp s) := by
 have h1 : IntKind.u16.wrap (Z s * 2) = Z (s <<< 1) := Z_shl s 1
 unfold stepc stp
 rw [Z_msb, h1]
 cases s.msb
 ·rfl
 ·exact Z_xor (s <<< 1) 4129#16
theorem itc_Z : ∀ (n : Nat) (s : BitVec 16), itc n (Z s) = Z (itb n s)
 | 0, _ => rfl
 | n + 1, s => by rw [itc, itb, itc_Z n, stepc_Z]
theorem eff_Z (b : Nat) (h : b < 256) : eff b = Z (itb 8 (BitVec.ofNat 16 (b * 256))) := by
 have e : ((b : Int) * 256) = Z (BitVec.ofNat 16 (b * 256)) := by
  unfold Z
  rw [BitVec.toNat_ofNat, Nat.mod_eq_of_lt (by omega)]
  omega
 unfold eff
 rw [e, itc_Z]
theorem tab_at (b : Nat) (h : b < 256) : rd effTab (b : Int) = eff b := by
 unfold rd effTab
 rw [Int.toNat_natCast, List.getD_eq_getElem?_getD, List.getElem?_map, List.getElem?_range h]
 rfl
def X8 (x : Int) : BitVec 16 := BitVec.ofNat 16 x.toNat
theorem X8_nat {x : Int} (h0 : 0 ≤ x) (h1 : x ≤ 255) : (X8 x).toNat = x.toNat := by
 unfold X8
 rw [BitVec.toNat_ofNat, Nat.mod_eq_of_lt (by omega)]
theorem sumStep_Z (s : BitVec 16) (x : Int) (h0 : 0 ≤ x) (h1 : x ≤ 255) : sumStep (Z s) x = Z (byt s (X8 x)) := by
 have hs := s.isLt
 have e1 : (Z s / 256) % 256 = ((s.toNat / 256 : Nat) : Int) := by unfold Z; omega
 have e2 : x = ((x.toNat : Nat) : Int) := by omega
 have h3 : s.toNat / 256 < 2 ^ 8 := by omega
 have h4 : x.toNat < 2 ^ 8 := by omega
 have h5 : (s.toNat / 256) ^^^ x.toNat < 256 := Nat.xor_lt_two_pow h3 h4
 have e3 : bits .xor .u8 ((Z s / 256) % 256) x = (((s.toNat / 256) ^^^ x.toNat : Nat) : Int) := by
  rw [e1]
  conv => lhs; rw [e2]
  exact u8_xor_nat _ _ (by omega) (by omega)
 have e4 : IntKind.u16.wrap (Z s * 256) = Z (s <<< 8) := Z_shl s 8
 unfold sumStep
 rw [e3, tab_at _ h5, eff_Z _ h5, e4, Z_xor, byt_tab]
 congr 3
 apply BitVec.eq_of_toNat_eq
 rw [BitVec.toNat_ofNat, BitVec.toNat_shiftLeft, BitVec.toNat_xor, BitVec.toNat_ushiftRight, X8_nat h0 h1, Nat.shiftLeft_eq, Nat.shiftRight_eq_div_pow]
theorem crcL_Z : ∀ (l : List Int) (s : BitVec 16), (∀ x ∈ l, 0 ≤ x ∧ x ≤ 255) → crcL (Z s) l = Z (crcB s (l.map X8))
 | [], s, _ => rfl
 | x :: l, s, h => by
  have hx := h x (by simp)
  show crcL (sumStep (Z s) x) l = Z (crcB (byt s (X8 x)) (l.map X8))
  rw [sumStep_Z s x hx.1 hx.2, crcL_Z l _ (fun y hy => h y (List.mem_cons_of_mem _ hy))]
theorem X8_xor {x y : Int} (h0 : 0 ≤ x) (h1 : x ≤ 255) (h2 : 0 ≤ y) (h3 : y ≤ 255) : X8 (bits .xor .u8 x y) = X8 x ^^^ X8 y := by
 have e : bits .xor .u8 x y = ((x.toNat ^^^ y.toNat : Nat) : Int) := u8_xor x y h0 (by omega) h2 (by omega)
 apply BitVec.eq_of_toNat_eq
 have h4 : x.toNat ^^^ y.toNat < 2 ^ 8 := Nat.xor_lt_two_pow (by omega) (by omega)
 rw [BitVec.toNat_xor, X8_nat h0 h1, X8_nat h2 h3, e]
 unfold X8
 rw [Int.toNat_natCast, BitVec.toNat_ofNat, Nat.mod_eq_of_lt (by omega)]
theorem xor8_range {x y : Int} (h0 : 0 ≤ x) (h1 : x ≤ 255) (h2 : 0 ≤ y) (h3 : y ≤ 255) : 0 ≤ bits .xor .u8 x y ∧ bits .xor .u8 x y ≤ 255 := by
 have e : bits .xor .u8 x y = ((x.toNat ^^^ y.toNat : Nat) : Int) := u8_xor x y h0 (by omega) h2 (by omega)
 have h4 : x.toNat ^^^ y.toNat < 2 ^ 8 := Nat.xor_lt_two_pow (by omega) (by omega)
 omega
end Go.Proofs.YtfpopmojlmpopaaDoor.L

end
section
namespace Go.Proofs.YtfpopmojlmpopaaDoor.L
open Go.RowKit Go.Proofs.YtfpopmojlmpopaaDoorW.PrintWords Go.Proofs.YtfpopmojlmpopaaDoorW.PrintLast Go.Proofs.YtfpopmojlmpopaaDoorW.PrintMore Go.Proofs.YtfpopmojlmpopaaDoor.G Go.Proofs.YtfpopmojlmpopaaDoor.H
set_option linter.unusedVariables false
set_option linter.unusedSimpArgs false
section
variable (l : List Int) (hb : ∀ x ∈ l, 0 ≤ x ∧ x ≤ 255) (hl : l.length ≤ 140737488351232)
include hb hl
end
theorem okBytes_of {l : List Int} (hb : ∀ x ∈ l, 0 ≤ x ∧ x ≤ 255) (hl : l.length ≤ 140737488351232) : okBytes l = true := by
 unfold okBytes
 rw [Bool.and_eq_true, List.all_eq_true, decide_eq_true_eq]
 exact ⟨fun x hx => by rw [Bool.and_eq_true, decide_eq_true_eq, decide_eq_true_eq]; exact hb x hx, hl⟩
theorem sum_f {l : List Int} (hb : ∀ x ∈ l, 0 ≤ x ∧ x ≤ 255) (hl : l.length ≤ 140737488351232) : frame_Sum.f l = some (crcL 65535 l) := by
 unfold frame_Sum.f
 rw [if_pos (okBytes_of hb hl)]
end Go.Proofs.YtfpopmojlmpopaaDoor.L

end
section
namespace Go.Proofs.YtfpopmojlmpopaaDoor.L
open Go.RowKit Go.Proofs.YtfpopmojlmpopaaDoorW.PrintWords Go.Proofs.YtfpopmojlmpopaaDoorW.PrintLast Go.Proofs.YtfpopmojlmpopaaDoorW.PrintMore Go.Proofs.YtfpopmojlmpopaaDoor.G Go.Proofs.YtfpopmojlmpopaaDoor.H
set_option linter.unusedVariables false
set_option linter.unusedSimpArgs false
def disp (n : Int) : Bool := decide (1 ≤ n) && decide (n ≤ 16)
theorem isDisplay_f (n : Int) : frame_isDisplay.f n = some (disp n) := by
 unfold frame_isDisplay.f disp
 by_cases h : 1 ≤ n
 ·rw [if_pos h, decide_eq_true h, Bool.true_and]
 ·rw [if_neg h, decide_eq_false h, Bool.false_and]
def routedF (a0 a1 a2 : Int) (l5 : List ByteArray) (l6 : List S52) : Bool :=
 if a0 = 1 ∨ a0 = 5 then disp a1 && (a2 == 0 && ((l5.length : Int) == 0 && (l6.length : Int) == 0))
 else if a0 = 2 then a1 == 0 && (disp a2 && (l6.length : Int) == 0)
 else if a0 = 3 then a1 == 0 && (disp a2 && (l5.length : Int) == 0)
 else if a0 = 4 then a1 == 0 && (disp a2 && ((l5.length : Int) == 0 && (l6.length : Int) == 0))
 else false
theorem and_if (p : Int) (x : Bool) : (if p = 0 then some x else some false) = some (p == 0 && x) := by
 by_cases h : p = 0
 ·rw [if_pos h, beq_iff_eq.2 h, Bool.true_and]
 ·rw [if_neg h, beq_eq_false_iff_ne.2 h, Bool.false_and]
theorem and_ifb (p x : Bool) : (if p = true then some x else some false) = some (p && x) := by cases p <;> rfl
theorem routed_ev (a0 a1 a2 a3 a4 : Int) (l5 : List ByteArray) (l6 : List S52) : Ev (fun k => frame_routed.f k a0 a1 a2 a3 a4 l5 l6) (routedF a0 a1 a2 l5 l6) := by
 have hT : a0 = 1 ∨ a0 = 5 → Ev (fun k => frame_routed.j0 k a0 true a0 a1 a2 a3 a4 l5 l6) (routedF a0 a1 a2 l5 l6) := fun h => by
  refine Ev.step (fun k => ?_) (Ev.now (routedF a0 a1 a2 l5 l6))
  simp only [frame_routed.j0, isDisplay_f, Option.bind_some, and_if, and_ifb, if_true]
  unfold routedF
  rw [if_pos h]
 have hF : ¬ (a0 = 1 ∨ a0 = 5) → Ev (fun k => frame_routed.j0 k a0 false a0 a1 a2 a3 a4 l5 l6) (routedF a0 a1 a2 l5 l6) := fun h => by
  refine Ev.step (fun k => ?_) (Ev.now (routedF a0 a1 a2 l5 l6))
  simp only [frame_routed.j0, isDisplay_f, Option.bind_some, and_if, and_ifb, Bool.false_eq_true, if_false]
  unfold routedF
  rw [if_neg h]
  split
  ·rfl
  ·split
   ·rfl
   ·split <;> rfl
 unfold frame_routed.f
 by_cases h1 : a0 = 1
 ·refine Ev.congr (fun k => by rw [if_pos h1, beq_iff_eq.2 h1]) (hT (.inl h1))
 ·by_cases h5 : a0 = 5
  ·refine Ev.congr (fun k => by rw [if_neg h1, beq_iff_eq.2 h5]) (hT (.inr h5))
  ·refine Ev.congr (fun k => by rw [if_neg h1, beq_eq_false_iff_ne.2 h5]) (hF (by omega))
def rangedF (a0 a3 a4 : Int) : Bool := decide (a3 < 0) || (decide (a3 > 1000000000) || (decide (a4 < 0) || (decide (a4 > 1000000000) || (a0 == 3 && a4 == 0))))
def checkF (a0 a1 a2 a3 a4 : Int) (l5 : List ByteArray) (l6 : List S52) : Int :=
 if routedF a0 a1 a2 l5 l6 = true then if rangedF a0 a3 a4 = true then 5 else if lineE l5 = 0 then if posE l6 = true then 0 else 1 else lineE l5 else 1
theorem check_ev (a0 a1 a2 a3 a4 : Int) (l5 : List ByteArray) (l6 : List S52) : Ev (fun k => frame_Check.f k a0 a1 a2 a3 a4 l5 l6) (checkF a0 a1 a2 a3 a4 l5 l6) := by
 unfold frame_Check.f checkF
 refine Ev.bind (routed_ev a0 a1 a2 a3 a4 l5 l6) ?_
 by_cases hr : routedF a0 a1 a2 l5 l6 = true
 ·rw [if_pos hr]
  have hj : ∀ b : Bool, rangedF a0 a3 a4 = b → Ev (fun k => frame_Check.j0 k b a0 a1 a2 a3 a4 l5 l6) (if rangedF a0 a3 a4 = true then 5 else if lineE l5 = 0 then if posE l6 = true then 0 else 1 else lineE l5) := fun b hb => by
   rw [hb]
   cases b with
   | true => exact Ev.step (fun k => by simp only [frame_Check.j0]; rw [if_pos trivial]) (Ev.now 5)
   | false =>
    rw [if_neg (by decide)]
    refine Ev.step (fun k => by simp only [frame_Check.j0]; rw [if_neg (by decide)]) (Ev.bind (lineError_ev l5) ?_)
    by_cases hl : lineE l5 = 0
    ·rw [if_pos hl]
     refine Ev.congr (fun k => if_pos hl) (Ev.bind (possible_ev l6) ?_)
     by_cases hp : posE l6 = true
     ·refine Ev.congr (fun k => if_pos hp) ?_
      rw [if_pos hp]
      exact Ev.now 0
     ·refine Ev.congr (fun k => if_neg hp) ?_
      rw [if_neg hp]
      exact Ev.now 1
    ·rw [if_neg hl]
     exact Ev.congr (fun k => if_neg hl) (Ev.now _)
  by_cases c1 : a3 < 0
  ·exact Ev.congr (fun k => by rw [if_pos hr, if_pos c1]) (hj true (by simp [rangedF, c1]))
  by_cases c2 : a3 > 1000000000
  ·exact Ev.congr (fun k => by rw [if_pos hr, if_neg c1, if_pos c2]) (hj true (by simp [rangedF, c2]))
  by_cases c3 : a4 < 0
  ·exact Ev.congr (fun k => by rw [if_pos hr, if_neg c1, if_neg c2, if_pos c3]) (hj true (by simp [rangedF, c3]))
  by_cases c4 : a4 > 1000000000
  ·exact Ev.congr (fun k => by rw [if_pos hr, if_neg c1, if_neg c2, if_neg c3, if_pos c4]) (hj true (by simp [rangedF, c4]))
  by_cases c5 : a0 = 3
  ·exact Ev.congr (fun k => by rw [if_pos hr, if_neg c1, if_neg c2, if_neg c3, if_neg c4, if_pos c5]) (hj (a4 == 0) (by simp [rangedF, c1, c2, c3, c4, c5]))
  ·exact Ev.congr (fun k => by rw [if_pos hr, if_neg c1, if_neg c2, if_neg c3, if_neg c4, if_neg c5]) (hj false (by simp [rangedF, c1, c2, c3, c4, c5]))
 ·rw [if_neg hr]
  exact Ev.congr (fun k => if_neg hr) (Ev.now 1)
theorem check_ok {a0 a1 a2 a3 a4 : Int} {l5 : List ByteArray} {l6 : List S52} (h : checkF a0 a1 a2 a3 a4 l5 l6 = 0) :
  (1 ≤ a0 ∧ a0 ≤ 5) ∧ (0 ≤ a1 ∧ a1 ≤ 16) ∧ (0 ≤ a2 ∧ a2 ≤ 16) ∧ (0 ≤ a3 ∧ a3 ≤ 1000000000) ∧ (0 ≤ a4 ∧ a4 ≤ 1000000000) ∧ lineE l5 = 0 ∧ posE l6 = true := by
 unfold checkF at h
 by_cases hr : routedF a0 a1 a2 l5 l6 = true
 ·rw [if_pos hr] at h
  by_cases hg : rangedF a0 a3 a4 = true
  ·rw [if_pos hg] at h
   cases h
  ·rw [if_neg hg] at h
   by_cases hl : lineE l5 = 0
   ·rw [if_pos hl] at h
    by_cases hp : posE l6 = true
    ·simp only [rangedF, Bool.or_eq_true, decide_eq_true_eq, not_or] at hg
     have hd : ∀ n : Int, disp n = true → 0 ≤ n ∧ n ≤ 16 := fun n hn => by
      simp only [disp, Bool.and_eq_true, decide_eq_true_eq] at hn
      omega
     have hk : (1 ≤ a0 ∧ a0 ≤ 5) ∧ (0 ≤ a1 ∧ a1 ≤ 16) ∧ (0 ≤ a2 ∧ a2 ≤ 16) := by
      unfold routedF at hr
      by_cases c1 : a0 = 1 ∨ a0 = 5
      ·rw [if_pos c1] at hr
       simp only [Bool.and_eq_true, beq_iff_eq] at hr
       have := hd a1 hr.1
       exact ⟨by omega, this, by omega⟩
      rw [if_neg c1] at hr
      by_cases c2 : a0 = 2
      ·rw [if_pos c2] at hr
       simp only [Bool.and_eq_true, beq_iff_eq] at hr
       exact ⟨by omega, by omega, hd a2 hr.2.1⟩
      rw [if_neg c2] at hr
      by_cases c3 : a0 = 3
      ·rw [if_pos c3] at hr
       simp only [Bool.and_eq_true, beq_iff_eq] at hr
       exact ⟨by omega, by omega, hd a2 hr.2.1⟩
      rw [if_neg c3] at hr
      by_cases c4 : a0 = 4
      ·rw [if_pos c4] at hr
       simp only [Bool.and_eq_true, beq_iff_eq] at hr
       exact ⟨by omega, by omega, hd a2 hr.2.1⟩
      ·rw [if_neg c4] at hr
       cases hr
     exact ⟨hk.1, hk.2.1, hk.2.2, by omega, by omega, hl, hp⟩
    ·rw [if_neg hp] at h
     cases h
   ·rw [if_neg hl] at h
    exact absurd h hl
 ·rw [if_neg hr] at h
  cases h
end Go.Proofs.YtfpopmojlmpopaaDoor.L

end
section
namespace Go.Proofs.YtfpopmojlmpopaaDoor.L
open Go.RowKit Go.Proofs.YtfpopmojlmpopaaDoorW.PrintWords Go.Proofs.YtfpopmojlmpopaaDoorW.PrintLast Go.Proofs.YtfpopmojlmpopaaDoorW.PrintMore Go.Proofs.YtfpopmojlmpopaaDoor.G Go.Proofs.YtfpopmojlmpopaaDoor.H
set_option linter.unusedVariables false
set_option linter.unusedSimpArgs false
def Byt (l : List Int) : Prop := ∀ x ∈ l, 0 ≤ x ∧ x ≤ 255
theorem Byt.nil : Byt [] := fun x hx => by cases hx
theorem Byt.cons {x : Int} {l : List Int} (h0 : 0 ≤ x ∧ x ≤ 255) (h : Byt l) : Byt (x :: l) := fun y hy => by
 rcases List.mem_cons.1 hy with rfl | hy
 ·exact h0
 ·exact h y hy
theorem Byt.app {a b : List Int} (h : Byt a) (h2 : Byt b) : Byt (a ++ b) := fun y hy => by
 rcases List.mem_append.1 hy with hy | hy
 ·exact h y hy
 ·exact h2 y hy
theorem Byt.bl (l : List UInt8) : Byt (H.bl l) := fun y hy => by
 obtain ⟨b, _, rfl⟩ := List.mem_map.1 hy
 have := b.toNat_lt
 omega
theorem Byt.bytesOf (s : ByteArray) : Byt (bytesOf s) := fun y hy => by
 obtain ⟨b, _, rfl⟩ := List.mem_map.1 hy
 have := b.toNat_lt
 omega
theorem Byt.intT (n : Int) : Byt (intT n) := Byt.cons (by omega) (Byt.app (Byt.bl _) (Byt.cons (by omega) Byt.nil))
theorem Byt.txt (s : ByteArray) : Byt (txt s) := Byt.app (Byt.bl _) (Byt.cons (by omega) (Byt.bytesOf s))
theorem Byt.flat {α : Type} (f : α → List Int) (hf : ∀ x, Byt (f x)) (l : List α) : Byt (l.flatMap f) := fun y hy => by
 obtain ⟨x, _, hx⟩ := List.mem_flatMap.1 hy
 exact hf x y hx
theorem Byt.txts (l : List ByteArray) : Byt (txts l) := Byt.flat _ Byt.txt l
theorem Byt.editT (x : S52) : Byt (editT x) := Byt.cons (by omega) (Byt.app (Byt.app (Byt.app (Byt.intT _) (Byt.intT _)) (Byt.cons (by omega) (Byt.app (Byt.txts _) (Byt.cons (by omega) Byt.nil)))) (Byt.cons (by omega) Byt.nil))
theorem Byt.encB (a0 a1 a2 a3 a4 : Int) (l5 : List ByteArray) (l6 : List S52) : Byt (encB a0 a1 a2 a3 a4 l5 l6) :=
 Byt.app (Byt.cons (by omega) (Byt.app (Byt.app (Byt.app (Byt.app (Byt.app (Byt.app (Byt.intT _) (Byt.intT _)) (Byt.intT _)) (Byt.intT _)) (Byt.intT _)) (Byt.cons (by omega) (Byt.app (Byt.txts _) (Byt.cons (by omega) Byt.nil)))) (Byt.cons (by omega) (Byt.flat _ Byt.editT _)))) (Byt.cons (by omega) (Byt.cons (by omega) Byt.nil))
theorem bl_len (l : List UInt8) : (H.bl l).length = l.length := List.length_map _
theorem bytesOf_len (s : ByteArray) : (bytesOf s).length = s.size := bytesOf_length s
theorem intT_len {n : Int} (h0 : 0 ≤ n) (h1 : n ≤ 9223372036854775807) : (intT n).length ≤ 23 := by
 have h := Lib.itoa_length_le n (by omega) h1
 unfold intT
 simp only [List.length_cons, List.length_append, bl_len, List.length_nil]
 omega
theorem txt_len {s : ByteArray} (h : s.size ≤ 160) : (txt s).length ≤ 182 := by
 have h1 := Lib.itoa_length_le (s.size : Int) (by omega) (by omega)
 unfold txt
 rw [List.length_append, bl_len, List.length_cons, bytesOf_len]
 omega
theorem txts_len : ∀ {l : List ByteArray}, (∀ s ∈ l, s.size ≤ 160) → (txts l).length ≤ 182 * l.length
 | [], _ => by simp [txts]
 | s :: l, h => by
  have h1 := txt_len (h s (by simp))
  have h2 := txts_len (l := l) (fun x hx => h x (List.mem_cons_of_mem _ hx))
  show (txt s ++ txts l).length ≤ _
  rw [List.length_append, List.length_cons]
  omega
theorem lines_size {l : List ByteArray} (h : lineE l = 0) : ∀ s ∈ l, s.size ≤ 160 := fun s hs => by
 have h1 : lineE l = 0 := h
 unfold lineE at h
 by_cases h2 : (l.length : Int) > 4096
 ·rw [if_pos h2] at h
  cases h
 rw [if_neg h2] at h
 by_cases h3 : l.any long = true
 ·rw [if_pos h3] at h
  cases h
 ·have h4 : ¬ long s = true := fun h5 => h3 (List.any_eq_true.2 ⟨s, hs, h5⟩)
  have h5 : ¬ (s.size : Int) > 160 := fun h6 => h4 (decide_eq_true h6)
  omega
theorem txts_bound {l : List ByteArray} (h : lineE l = 0) : (txts l).length ≤ 745472 := by
 have h1 := txts_len (lines_size h)
 have h2 := lineE_len h
 omega
theorem pos_edit : ∀ {p : Option S52} {es : List S52}, posFrom p es = true → ∀ x ∈ es, Good x ∧ lineE x.f2 = 0
 | _, [], _, x, hx => by cases hx
 | p, y :: r, h, x, hx => by
  simp only [posFrom, Bool.and_eq_true] at h
  rcases List.mem_cons.1 hx with rfl | hx
  ·have ho := h.1.1
   simp only [L.okE, Bool.and_eq_true, beq_iff_eq] at ho
   exact ⟨okE_good h.1.1, ho.2⟩
  ·exact pos_edit h.2 x hx
theorem edsT_len : ∀ {l : List S52}, (∀ x ∈ l, Good x ∧ lineE x.f2 = 0) → (∀ x ∈ l, okEdit x) → (edsT l).length ≤ 745600 * l.length
 | [], _, _ => by simp [edsT]
 | x :: l, h, hb => by
  obtain ⟨h1, h2⟩ := h x (by simp)
  have h3 := intT_len h1.a0 (hb x (by simp)).1.2
  have h4 := intT_len h1.d0 (hb x (by simp)).2.2
  have h5 := txts_bound h2
  have h6 := edsT_len (l := l) (fun y hy => h y (List.mem_cons_of_mem _ hy)) (fun y hy => hb y (List.mem_cons_of_mem _ hy))
  show (editT x ++ edsT l).length ≤ _
  unfold editT
  simp only [List.length_append, List.length_cons, List.length_nil]
  omega
theorem encT_len {a0 a1 a2 a3 a4 : Int} {l5 : List ByteArray} {l6 : List S52} (hb : ∀ x ∈ l6, okEdit x) (h : checkF a0 a1 a2 a3 a4 l5 l6 = 0) : (encT a0 a1 a2 a3 a4 l5 l6).length ≤ 4000000000 := by
 obtain ⟨h0, h1, h2, h3, h4, h5, h6⟩ := check_ok h
 obtain ⟨h7, h8⟩ := posE_len h6
 have e0 := intT_len (n := a0) (by omega) (by omega)
 have e1 := intT_len (n := a1) (by omega) (by omega)
 have e2 := intT_len (n := a2) (by omega) (by omega)
 have e3 := intT_len (n := a3) (by omega) (by omega)
 have e4 := intT_len (n := a4) (by omega) (by omega)
 have e5 := txts_bound h5
 have e6 := edsT_len (pos_edit h8) hb
 unfold encT
 simp only [List.length_append, List.length_cons, List.length_nil]
 omega
theorem enc_ok {a0 a1 a2 a3 a4 : Int} {l5 : List ByteArray} {l6 : List S52} (hb : ∀ x ∈ l6, okEdit x) (h : checkF a0 a1 a2 a3 a4 l5 l6 = 0) : H.okE a0 a1 a2 a3 a4 l5 l6 = true := by
 have hl := encT_len hb h
 obtain ⟨h0, h1, h2, h3, h4, h5, h6⟩ := check_ok h
 obtain ⟨h7, h8⟩ := posE_len h6
 have h9 := lineE_len h5
 have ho : ∀ n : Int, 0 ≤ n → n ≤ 9223372036854775807 → okI n = true := fun n p q => by
  unfold okI
  rw [decide_eq_true p, decide_eq_true q]
  rfl
 unfold H.okE
 rw [ho a0 (by omega) (by omega), ho a1 (by omega) (by omega), ho a2 (by omega) (by omega), ho a3 (by omega) (by omega), ho a4 (by omega) (by omega), decide_eq_true (show l5.length ≤ 140737488355328 from by omega), decide_eq_true (show l6.length ≤ 140737488355328 from by omega), decide_eq_true (show (encT a0 a1 a2 a3 a4 l5 l6).length + 1000 ≤ 140737488351232 from by omega)]
 simp only [Bool.true_and, Bool.and_true, List.all_eq_true, Bool.and_eq_true, decide_eq_true_eq]
 intro x hx
 obtain ⟨g1, g2⟩ := pos_edit h8 x hx
 have g3 := hb x hx
 exact ⟨⟨ho _ g1.a0 g3.1.2, ho _ g1.d0 g3.2.2⟩, by have := g1.l1; omega⟩
def sealed (a0 a1 a2 a3 a4 : Int) (l5 : List ByteArray) (l6 : List S52) : List Int := encB a0 a1 a2 a3 a4 l5 l6 ++ digs (crcL 65535 (encB a0 a1 a2 a3 a4 l5 l6))
def encodeF (a0 a1 a2 a3 a4 : Int) (l5 : List ByteArray) (l6 : List S52) : List Int × Int :=
 if checkF a0 a1 a2 a3 a4 l5 l6 = 0 then (sealed a0 a1 a2 a3 a4 l5 l6, 0) else ([], checkF a0 a1 a2 a3 a4 l5 l6)
theorem encode_ev (a0 a1 a2 a3 a4 : Int) (l5 : List ByteArray) (l6 : List S52) (hb : ∀ x ∈ l6, okEdit x) : Ev (fun k => frame_Encode.f k a0 a1 a2 a3 a4 l5 l6) (encodeF a0 a1 a2 a3 a4 l5 l6) := by
 unfold frame_Encode.f encodeF
 refine Ev.bind (check_ev a0 a1 a2 a3 a4 l5 l6) ?_
 by_cases h : checkF a0 a1 a2 a3 a4 l5 l6 = 0
 ·have hl := encT_len hb h
  refine Ev.congr (fun k => if_pos h) ?_
  rw [if_pos h]
  refine Ev.congr (fun k => if_pos (enc_ok hb h)) ?_
  rw [sum_f (Byt.encB a0 a1 a2 a3 a4 l5 l6) (by unfold H.encB; rw [List.length_append]; simp only [List.length_cons, List.length_nil]; omega)]
  exact Ev.now _
 ·refine Ev.congr (fun k => if_neg h) ?_
  rw [if_neg h]
  exact Ev.now _
end Go.Proofs.YtfpopmojlmpopaaDoor.L

end
section
namespace Go.Proofs.YtfpopmojlmpopaaDoor.L
open Go.RowKit Go.Proofs.YtfpopmojlmpopaaDoorW.PrintWords Go.Proofs.YtfpopmojlmpopaaDoorW.PrintLast Go.Proofs.YtfpopmojlmpopaaDoorW.PrintMore Go.Proofs.YtfpopmojlmpopaaDoor.G Go.Proofs.YtfpopmojlmpopaaDoor.H
set_option linter.unusedVariables false
set_option linter.unusedSimpArgs false
theorem byt_shift (u v x : BitVec 16) : byt (u ^^^ v) x = byt u x ^^^ itb 8 v := by
 have h := byt_xor u v x 0#16
 rw [BitVec.xor_zero] at h
 rw [h]
 congr 1
 unfold byt
 rw [BitVec.zero_shiftLeft, BitVec.xor_zero]
theorem crc_shift : ∀ (l : List (BitVec 16)) (u v : BitVec 16), crcB (u ^^^ v) l = crcB u l ^^^ itb (8 * l.length) v
 | [], u, v => rfl
 | x :: l, u, v => by
  show crcB (byt (u ^^^ v) x) l = crcB (byt u x) l ^^^ _
  rw [byt_shift, crc_shift l, List.length_cons, show 8 * (l.length + 1) = 8 * l.length + 8 from by omega, itb_add]
theorem crc_set : ∀ (l : List (BitVec 16)) (q : Nat) (u m : BitVec 16) (h : q < l.length), crcB u (l.set q (l[q] ^^^ m)) = crcB u l ^^^ itb (8 * (l.length - q)) (m <<< 8)
 | [], _, _, _, h => absurd h (by simp)
 | x :: l, 0, u, m, _ => by
  have e : byt u (x ^^^ m) = byt u x ^^^ itb 8 (m <<< 8) := by
   unfold byt
   rw [BitVec.shiftLeft_xor_distrib, ← BitVec.xor_assoc, itb_xor]
  show crcB (byt u (x ^^^ m)) l = crcB (byt u x) l ^^^ _
  rw [e, crc_shift, List.length_cons, Nat.sub_zero, show 8 * (l.length + 1) = 8 * l.length + 8 from by omega, itb_add]
 | x :: l, q + 1, u, m, h => by
  show crcB (byt u x) (l.set q (l[q]'(by simpa using h) ^^^ m)) = crcB (byt u x) l ^^^ _
  rw [crc_set l q (byt u x) m (by simpa using h), List.length_cons, Nat.add_sub_add_right]
def pw (j : Nat) : BitVec 16 := BitVec.twoPow 16 j
theorem itb_pw (r : Nat) (h : r ≤ 15) : itb r (pw (15 - r)) = pw 15 := by
 have : ∀ r : Fin 16, itb r.val (pw (15 - r.val)) = pw 15 := by decide +kernel
 exact this ⟨r, by omega⟩
def revF (F : Nat) : Nat → BitVec 16
 | 0 => 0#16
 | n + 1 => revF F n ^^^ (if F.testBit n = true then pw (15 - n) else 0#16)
theorem pw_bit (i j : Nat) (hi : i ≤ 15) (hj : j ≤ 15) : (pw i).getLsbD j = decide (i = j) := by
 have : ∀ i j : Fin 16, (pw i.val).getLsbD j.val = decide (i.val = j.val) := by decide +kernel
 exact this ⟨i, by omega⟩ ⟨j, by omega⟩
theorem revF_bit (F : Nat) (j : Nat) (hj : j ≤ 15) : ∀ n : Nat, n ≤ 16 → (revF F n).getLsbD (15 - j) = (decide (j < n) && F.testBit j)
 | 0, _ => by simp [revF]
 | n + 1, hn => by
  rw [revF, BitVec.getLsbD_xor, revF_bit F j hj n (by omega)]
  by_cases hjn : j = n
  ·subst hjn
   rw [decide_eq_false (Nat.lt_irrefl j), decide_eq_true (Nat.lt_succ_self j), Bool.false_and, Bool.true_and, Bool.false_xor]
   cases hF : F.testBit j with
   | true => rw [if_pos rfl, pw_bit _ _ (by omega) (by omega), decide_eq_true rfl]
   | false => rw [if_neg (by decide)]; simp
  ·have e : decide (j < n + 1) = decide (j < n) := decide_eq_decide.2 (by omega)
   rw [e]
   cases hF : F.testBit n with
   | true => rw [if_pos rfl, pw_bit _ _ (by omega) (by omega), decide_eq_false (show ¬ 15 - n = 15 - j from by omega), Bool.xor_false]
   | false => rw [if_neg (by decide)]; simp
theorem revF_ne {F : Nat} (h0 : F ≠ 0) (h1 : F < 65536) : revF F 16 ≠ 0#16 := fun h => h0 (Nat.eq_of_testBit_eq fun j => by
 rw [Nat.zero_testBit]
 by_cases hj : j ≤ 15
 ·have h2 := revF_bit F j hj 16 (Nat.le_refl _)
  rw [h, decide_eq_true (by omega), Bool.true_and] at h2
  rw [← h2]
  simp
 ·exact Nat.testBit_lt_two_pow (Nat.lt_of_lt_of_le (show F < 2 ^ 16 from h1) (Nat.pow_le_pow_right (by decide) (by omega))))
def flipN (at_ F : Nat) (b : List Int) : Nat → List Int
 | 0 => b
 | n + 1 => if F.testBit n = true then (flipN at_ F b n).set ((at_ + n) / 8) (bits .xor .u8 (rd (flipN at_ F b n) (((at_ + n) / 8 : Nat) : Int)) ((2 ^ (7 - (at_ + n) % 8) : Nat) : Int)) else flipN at_ F b n
theorem flipN_len (at_ F : Nat) (b : List Int) : ∀ n : Nat, (flipN at_ F b n).length = b.length
 | 0 => rfl
 | n + 1 => by
  rw [flipN]
  split
  ·rw [List.length_set, flipN_len at_ F b n]
  ·exact flipN_len at_ F b n
theorem pow_small (r : Nat) : ((2 ^ (7 - r) : Nat) : Int) ≤ 255 ∧ (0 : Int) ≤ ((2 ^ (7 - r) : Nat) : Int) := by
 have h : 2 ^ (7 - r) ≤ 2 ^ 7 := Nat.pow_le_pow_right (by decide) (by omega)
 generalize 2 ^ (7 - r) = m at h ⊢
 omega
theorem rd_nat (l : List Int) (i : Nat) (h : i < l.length) : rd l ((i : Nat) : Int) = l[i] := by
 unfold rd
 rw [Int.toNat_natCast]
 simp [List.getD, h]
theorem flipN_byt (at_ F : Nat) (b : List Int) (h : Byt b) : ∀ n : Nat, (at_ + n) ≤ 8 * b.length → Byt (flipN at_ F b n)
 | 0, _ => h
 | n + 1, hn => by
  have ih := flipN_byt at_ F b h n (by omega)
  have hl := flipN_len at_ F b n
  rw [flipN]
  split
  ·intro x hx
   rcases List.mem_or_eq_of_mem_set hx with hx | rfl
   ·exact ih x hx
   ·have hq : (at_ + n) / 8 < (flipN at_ F b n).length := by omega
    have e := rd_nat (flipN at_ F b n) ((at_ + n) / 8) hq
    rw [e]
    have h1 := ih _ (List.getElem_mem hq)
    have h2 := pow_small ((at_ + n) % 8)
    exact xor8_range h1.1 h1.2 h2.2 h2.1
  ·exact ih
theorem flipN_drop (at_ F : Nat) (b : List Int) (L : Nat) : ∀ n : Nat, at_ + n ≤ 8 * L → (flipN at_ F b n).drop L = b.drop L
 | 0, _ => rfl
 | n + 1, hn => by
  rw [flipN]
  split
  ·rw [List.drop_set_of_lt (by omega), flipN_drop at_ F b L n (by omega)]
  ·exact flipN_drop at_ F b L n (by omega)
theorem X8_pow (r : Nat) (hr : r < 8) : X8 ((2 ^ (7 - r) : Nat) : Int) <<< 8 = pw (15 - r) := by
 have : ∀ r : Fin 8, X8 ((2 ^ (7 - r.val) : Nat) : Int) <<< 8 = pw (15 - r.val) := by decide +kernel
 exact this ⟨r, hr⟩
theorem flipN_crc (at_ F : Nat) (b : List Int) (h : Byt b) (L : Nat) (hL : L ≤ b.length) (u : BitVec 16) : ∀ n : Nat, n ≤ 16 → at_ + 16 ≤ 8 * L →
  crcB u (((flipN at_ F b n).take L).map X8) = crcB u ((b.take L).map X8) ^^^ itb (8 * L - at_) (revF F n)
 | 0, _, _ => by rw [flipN, revF, itb_zero, BitVec.xor_zero]
 | n + 1, hn, ha => by
  have ih := flipN_crc at_ F b h L hL u n (by omega) ha
  have hl := flipN_len at_ F b n
  have hB := flipN_byt at_ F b h n (by omega)
  rw [flipN, revF]
  cases hF : F.testBit n with
  | false => rw [if_neg (by decide), if_neg (by decide), BitVec.xor_zero]; exact ih
  | true =>
   rw [if_pos rfl, if_pos rfl]
   generalize hc : flipN at_ F b n = c at ih hl hB ⊢
   obtain ⟨q, hq⟩ : ∃ q, (at_ + n) / 8 = q := ⟨_, rfl⟩
   obtain ⟨r, hr⟩ : ∃ r, (at_ + n) % 8 = r := ⟨_, rfl⟩
   have hqr : at_ + n = 8 * q + r := by omega
   have hr8 : r < 8 := by omega
   rw [hq, hr]
   have hqL : q < L := by omega
   have hqc : q < c.length := by omega
   have hqm : q < ((c.take L).map X8).length := by rw [List.length_map, List.length_take]; omega
   have e1 := rd_nat c q hqc
   have h1 := hB _ (List.getElem_mem hqc)
   have h2 := pow_small r
   have e2 : ((c.set q (bits .xor .u8 (rd c (q : Int)) ((2 ^ (7 - r) : Nat) : Int))).take L).map X8 = ((c.take L).map X8).set q (((c.take L).map X8)[q] ^^^ X8 ((2 ^ (7 - r) : Nat) : Int)) := by
    rw [List.take_set, List.map_set, e1, X8_xor h1.1 h1.2 h2.2 h2.1]
    congr 2
    rw [List.getElem_map, List.getElem_take]
   have e3 : ((c.take L).map X8).length = L := by rw [List.length_map, List.length_take]; omega
   rw [e2, crc_set _ q u _ hqm, ih, e3, X8_pow r hr8, BitVec.xor_assoc, itb_xor]
   congr 2
   have a1 : 8 * (L - q) = (8 * L - at_ - n) + r := by omega
   have a2 : 8 * L - at_ = (8 * L - at_ - n) + n := by omega
   rw [a1, itb_add, itb_pw r (by omega)]
   conv => rhs; rw [a2, itb_add, itb_pw n (by omega)]
theorem dgt_inj {s t : Int} (hs : 0 ≤ s ∧ s ≤ 65535) (ht : 0 ≤ t ∧ t ≤ 65535) (h : dgt s = dgt t) : s % 16 = t % 16 := by
 have hn : ∀ n : Int, 0 ≤ n → n ≤ 65535 → bits BinOp.and IntKind.u16 n 15 = ((n.toNat % 16 : Nat) : Int) := fun n h0 h1 => by
  rw [u16_and n 15 h0 (by omega) (by omega) (by omega)]
  have : n.toNat &&& (15 : Int).toNat = n.toNat % 2 ^ 4 := Nat.and_two_pow_sub_one_eq_mod _ 4
  rw [this]
 unfold dgt at h
 rw [hn s hs.1 hs.2, hn t ht.1 ht.2] at h
 have key : ∀ i j : Fin 16, bt ⟨#[48, 49, 50, 51, 52, 53, 54, 55, 56, 57, 97, 98, 99, 100, 101, 102]⟩ ((i.val : Nat) : Int) = bt ⟨#[48, 49, 50, 51, 52, 53, 54, 55, 56, 57, 97, 98, 99, 100, 101, 102]⟩ ((j.val : Nat) : Int) → i = j := by decide +kernel
 have h2 := key ⟨s.toNat % 16, by omega⟩ ⟨t.toNat % 16, by omega⟩ h
 have h3 : s.toNat % 16 = t.toNat % 16 := congrArg Fin.val h2
 omega
theorem digs_inj {s t : Int} (hs : 0 ≤ s ∧ s ≤ 65535) (ht : 0 ≤ t ∧ t ≤ 65535) (h : digs s = digs t) : s = t := by
 unfold digs at h
 simp only [List.cons.injEq, and_true] at h
 have h1 := dgt_inj (s := s / 4096) (t := t / 4096) (by omega) (by omega) h.1
 have h2 := dgt_inj (s := s / 256) (t := t / 256) (by omega) (by omega) h.2.1
 have h3 := dgt_inj (s := s / 16) (t := t / 16) (by omega) (by omega) h.2.2.1
 have h4 := dgt_inj hs ht h.2.2.2
 omega
theorem digs_len (s : Int) : (digs s).length = 4 := rfl
theorem damaged (B : List Int) (hB : Byt B) (hl : B.length ≤ 140737488351232) (at_ F : Nat) (ha : at_ + 16 ≤ 8 * B.length) (h0 : F ≠ 0) (h1 : F < 65536) (K : Nat) :
  frame_Decode.f K (flipN at_ F (B ++ digs (crcL 65535 B)) 16) = some (0, 0, 0, 0, 0, [], [], 12) := by
 have e : (65535 : Int) = Z 65535#16 := rfl
 have hD : Byt (digs (crcL 65535 B)) := fun x hx => by
  have hd : ∀ n : Int, 0 ≤ dgt n ∧ dgt n ≤ 255 := fun n => bt_range _ _
  unfold digs at hx
  simp only [List.mem_cons, List.not_mem_nil, or_false] at hx
  rcases hx with rfl | rfl | rfl | rfl <;> exact hd _
 have hlen : (flipN at_ F (B ++ digs (crcL 65535 B)) 16).length = B.length + 4 := by rw [flipN_len, List.length_append, digs_len]
 have hby := flipN_byt at_ F (B ++ digs (crcL 65535 B)) (hB.app hD) 16 (by rw [List.length_append, digs_len]; omega)
 have hdr := flipN_drop at_ F (B ++ digs (crcL 65535 B)) B.length 16 ha
 have hcr := flipN_crc at_ F (B ++ digs (crcL 65535 B)) (hB.app hD) B.length (by rw [List.length_append]; omega) 65535#16 16 (Nat.le_refl _) ha
 rw [List.drop_append_of_le_length (Nat.le_refl _), List.drop_length, List.nil_append] at hdr
 rw [List.take_append_of_le_length (Nat.le_refl _), List.take_length] at hcr
 generalize flipN at_ F (B ++ digs (crcL 65535 B)) 16 = c at hlen hby hdr hcr ⊢
 have ht : c.length - 4 = B.length := by omega
 have htb : Byt (c.take B.length) := fun x hx => hby x (List.mem_of_mem_take hx)
 have hs : crcL 65535 (c.take B.length) ≠ crcL 65535 B := fun hq => by
  rw [e, crcL_Z _ _ htb, crcL_Z _ _ hB] at hq
  have h2 := Z_inj hq
  rw [hcr] at h2
  have h3 : itb (8 * B.length - at_) (revF F 16) = 0#16 := by
   have h4 : crcB 65535#16 (B.map X8) ^^^ (crcB 65535#16 (B.map X8) ^^^ itb (8 * B.length - at_) (revF F 16)) = crcB 65535#16 (B.map X8) ^^^ crcB 65535#16 (B.map X8) := by rw [h2]
   rw [← BitVec.xor_assoc, BitVec.xor_self, BitVec.zero_xor] at h4
   exact h4
  exact revF_ne h0 h1 (itb_ne _ h3)
 have hr : ∀ l : List Int, 0 ≤ crcL 65535 l ∧ crcL 65535 l ≤ 65535 := fun l => crcL_range 65535 l (by omega) (by omega)
 unfold frame_Decode.f
 rw [if_neg (by omega), ht, hdr, sum_f htb (by rw [List.length_take]; omega), Option.bind_some, if_neg (fun hq => hs (digs_inj (hr _) (hr _) hq))]
end Go.Proofs.YtfpopmojlmpopaaDoor.L

end
section
namespace Go.Proofs.YtfpopmojlmpopaaDoor.H
open Go.RowKit Go.Proofs.YtfpopmojlmpopaaDoorW.PrintWords Go.Proofs.YtfpopmojlmpopaaDoorW.PrintLast Go.Proofs.YtfpopmojlmpopaaDoorW.PrintMore Go.Proofs.YtfpopmojlmpopaaDoor.G Go.Proofs.YtfpopmojlmpopaaDoor.L
set_option linter.unusedVariables false
set_option linter.unusedSimpArgs false
theorem R_emptyD {W : World} {b : Nat} (hb : b ≤ W.heap.size) : Kd.R (Kd.int .u8) 5 (W.alloc (Obj.cells #[] 5)) b (fun _ => True) (.slice (some ⟨W.heap.size, 0, none⟩) 0 0) [] := by
 refine ⟨fun _ _ => trivial, [], ?_, ⟨rfl, fun j p h => by simp at h⟩⟩
 refine ⟨rfl, .inr ⟨W.heap.size, 0, #[], rfl, hb, heap_alloc_new _ _, ?_⟩⟩
 simp
theorem flip_bit (F i : Nat) (h : F ≤ 65535) : bits .and .u16 ((F : Int) / 2 ^ i) 1 = if F.testBit i = true then 1 else 0 := by
 have e2 : (F : Int) / 2 ^ i = ((F / 2 ^ i : Nat) : Int) := by
  rw [Int.natCast_ediv, Int.natCast_pow]
  rfl
 have e3 : F / 2 ^ i < 65536 := Nat.lt_of_le_of_lt (Nat.div_le_self _ _) (by omega)
 have e4 : bits .and .u16 ((F / 2 ^ i : Nat) : Int) 1 = ((F / 2 ^ i &&& 1 : Nat) : Int) := u16_and_nat _ _ e3 (by decide)
 rw [e2, e4, Nat.and_one_is_mod, Nat.testBit_eq_decide_div_mod_eq]
 by_cases h : F / 2 ^ i % 2 = 1
 ·rw [if_pos (decide_eq_true h), h]
  rfl
 ·rw [if_neg (by simpa using h)]
  have : F / 2 ^ i % 2 = 0 := by omega
  rw [this]
  rfl
theorem pow_wrap (r : Nat) : IntKind.u8.wrap (2 ^ (7 - r)) = ((2 ^ (7 - r) : Nat) : Int) := by
 have h := pow_small r
 rw [Int.natCast_pow] at h ⊢
 rw [IntKind.wrap_u8]
 generalize ((2 : Nat) : Int) ^ (7 - r) = m at h ⊢
 omega
set_option maxHeartbeats 8000000 in
set_option maxRecDepth 100000 in
theorem FrameDamage_calls (n0 n1 n2 n3 n4 : Int) (A5 : Option Addr) (c5 : Nat) (l5 : List ByteArray) (A6 : Option Addr) (c6 : Nat) (l6 : List S52) (at_ flip : Int) (w : World) (hLd : Laid w)
  (hr5 : Kd.C Kd.string w A5 l5.length l5) (hc5 : l5.length ≤ c5) (hr6 : Kd.C k52 w A6 l6.length l6) (hc6 : l6.length ≤ c6) (hat : -9223372036854775808 ≤ at_ ∧ at_ ≤ 9223372036854775807) (hfl : 0 ≤ flip ∧ flip ≤ 65535) (hb : ∀ x ∈ l6, okEdit x) :
  Calls Tryd.prog 4 #[.agg #[.int .i64 n0, .int .i64 n1, .int .i64 n2, .int .i64 n3, .int .i64 n4, .slice A5 l5.length c5, .slice A6 l6.length c6], .int .i64 at_, .int .u16 flip] w fun e w' => e = .returned (.bool true) ∧ Below w.heap.size w w' := by
 have HL := Lib.hid hLd
 have HR5 := Lib.hid hr5
 have HR6 := Lib.hid hr6
 have HB6 := Lib.hid hb
 clear hLd hr5 hr6 hb
 go_enter Tryd.func4, Tryd.ntmps4
 go_wp2_with fail
 have HB0 : Hid (Below w.heap.size w (w.alloc (Obj.cells #[.int .i64 n0, .int .i64 n1, .int .i64 n2, .int .i64 n3, .int .i64 n4, .slice A5 l5.length c5, .slice A6 l6.length c6] 31))) := Lib.hid (below_alloc (Below.refl _ _) _)
 have HF0 : Hid ((w.alloc (Obj.cells #[.int .i64 n0, .int .i64 n1, .int .i64 n2, .int .i64 n3, .int .i64 n4, .slice A5 l5.length c5, .slice A6 l6.length c6] 31)).heap[w.heap.size]? = some (.cells #[.int .i64 n0, .int .i64 n1, .int .i64 n2, .int .i64 n3, .int .i64 n4, .slice A5 l5.length c5, .slice A6 l6.length c6] 31 (0, 0))) := Lib.hid (heap_alloc_new _ _)
 generalize w.alloc (Obj.cells #[.int .i64 n0, .int .i64 n1, .int .i64 n2, .int .i64 n3, .int .i64 n4, .slice A5 l5.length c5, .slice A6 l6.length c6] 31) = w0 at HB0 HF0 ⊢
 obtain ⟨kz, hz⟩ := (small_ev n0 n1 n2 n3 n4 l5 l6).rounds
 generalize small l5 l6 = sm at hz
 refine (salchowref49_Small.calls kz n0 n1 n2 n3 n4 A5 c5 l5 A6 c6 l6 sm w0 (Kd.C_below HR5.out HB0.out) hc5 (Kd.C_below HR6.out HB0.out) hc6 hz).mono ?_
 rintro e w1 ⟨rfl, hb⟩
 have HB1 : Hid (Below w.heap.size w w1) := Lib.hid (below_step HB0.out hb)
 have HF1 := Lib.hid ((hb.block _ (blk_lt HF0.out)).trans HF0.out)
 clear hb hz HB0 HF0
 cases sm
 ·skip
  go_wp2_with fail
  refine (salchowlaw49_awake.calls true w1 (HL.out.below HB1.out) rfl).mono ?_
  rintro e w9 ⟨rfl, hb⟩
  have HB9 : Hid (Below w.heap.size w w9) := Lib.hid (below_step HB1.out hb)
  clear hb
  go_wp2_with fail
  go_ret
  exact ⟨rfl, HB9.out⟩
 ·by_cases h0 : flip = 0
  ·have z0 : (flip == 0) = true := beq_iff_eq.2 h0
   go_wp2_with fail
   refine (salchowlaw49_awake.calls true w1 (HL.out.below HB1.out) rfl).mono ?_
   rintro e w9 ⟨rfl, hb⟩
   have HB9 : Hid (Below w.heap.size w w9) := Lib.hid (below_step HB1.out hb)
   clear hb
   go_wp2_with fail
   go_ret
   exact ⟨rfl, HB9.out⟩
  ·have z0 : (flip == 0) = false := beq_eq_false_iff_ne.2 h0
   have f0 : w1.cell? ⟨w.heap.size, 0, none⟩ = some (.int .i64 n0) := (blk_cell HF1.out 0).trans rfl
   have f1 : w1.cell? ⟨w.heap.size, 1, none⟩ = some (.int .i64 n1) := (blk_cell HF1.out 1).trans rfl
   have f2 : w1.cell? ⟨w.heap.size, 2, none⟩ = some (.int .i64 n2) := (blk_cell HF1.out 2).trans rfl
   have f3 : w1.cell? ⟨w.heap.size, 3, none⟩ = some (.int .i64 n3) := (blk_cell HF1.out 3).trans rfl
   have f4 : w1.cell? ⟨w.heap.size, 4, none⟩ = some (.int .i64 n4) := (blk_cell HF1.out 4).trans rfl
   have f5 : w1.cell? ⟨w.heap.size, 5, none⟩ = some (.slice A5 l5.length c5) := (blk_cell HF1.out 5).trans rfl
   have f6 : w1.cell? ⟨w.heap.size, 6, none⟩ = some (.slice A6 l6.length c6) := (blk_cell HF1.out 6).trans rfl
   obtain ⟨kE, hE⟩ := (encode_ev n0 n1 n2 n3 n4 l5 l6 HB6.out).rounds
   obtain ⟨bE, hbE⟩ : ∃ bE, (encodeF n0 n1 n2 n3 n4 l5 l6).1 = bE := ⟨_, rfl⟩
   obtain ⟨eE, heE⟩ : ∃ eE, (encodeF n0 n1 n2 n3 n4 l5 l6).2 = eE := ⟨_, rfl⟩
   have hpair : encodeF n0 n1 n2 n3 n4 l5 l6 = (bE, eE) := by rw [← hbE, ← heE]
   rw [hpair] at hE
   have HPR := Lib.hid hpair
   have HE := Lib.hid hE
   clear hbE heE hpair hE
   go_wp2_with fail
   refine (frame_Encode.calls kE n0 n1 n2 n3 n4 A5 c5 l5 A6 c6 l6 bE eE w1 (HL.out.below HB1.out) (Kd.C_below HR5.out HB1.out) hc5 (Kd.C_below HR6.out HB1.out) hc6 HE.out).mono ?_
   rintro e w2 ⟨AE, cE, rfl, hcE, hCE, hb⟩
   have HB2 : Hid (Below w.heap.size w w2) := Lib.hid (below_step HB1.out hb)
   have HCE := Lib.hid hCE
   have HNE := Lib.hid hcE
   clear hb hCE hcE f0 f1 f2 f3 f4 f5 f6
   have hmx := Kd.C_max HCE.out
   obtain ⟨j4, hj4⟩ : ∃ j : Int, wrap64 ((bE.length : Int) - 4) = j := ⟨_, rfl⟩
   obtain ⟨j8, hj8⟩ : ∃ j : Int, wrap64 (8 * j4) = j := ⟨_, rfl⟩
   obtain ⟨j16, hj16⟩ : ∃ j : Int, wrap64 (j8 - 16) = j := ⟨_, rfl⟩
   have hj4w : IntKind.i64.wrap ((bE.length : Int) - 4) = j4 := (i64_w _).trans hj4
   have hj8w : IntKind.i64.wrap (8 * j4) = j8 := (i64_w _).trans hj8
   have hj16w : IntKind.i64.wrap (j8 - 16) = j16 := (i64_w _).trans hj16
   by_cases h1 : eE = 0
   ·have q1 : (eE == 0) = true := beq_iff_eq.2 h1
    have q2 : (eE != 0) = false := bne_eq_false_iff_eq.2 h1
    by_cases h8 : (bE.length : Int) < 8
    ·have q3 := decide_eq_true h8
     go_wp2_with fail
     refine (salchowlaw49_awake.calls true w2 (HL.out.below HB2.out) rfl).mono ?_
     rintro e w9 ⟨rfl, hb⟩
     have HB9 : Hid (Below w.heap.size w w9) := Lib.hid (below_step HB2.out hb)
     clear hb
     go_wp2_with fail
     go_ret
     exact ⟨rfl, HB9.out⟩
    ·have q3 := decide_eq_false h8
     by_cases hn : at_ < 0
     ·have q4 := decide_eq_true hn
      go_wp2_with fail
      refine (salchowlaw49_awake.calls true w2 (HL.out.below HB2.out) rfl).mono ?_
      rintro e w9 ⟨rfl, hb⟩
      have HB9 : Hid (Below w.heap.size w w9) := Lib.hid (below_step HB2.out hb)
      clear hb
      go_wp2_with fail
      go_ret
      exact ⟨rfl, HB9.out⟩
     ·have q4 := decide_eq_false hn
      by_cases hg : j16 < at_
      ·have q5 := decide_eq_true hg
       go_wp2_with fail
       refine (salchowlaw49_awake.calls true w2 (HL.out.below HB2.out) rfl).mono ?_
       rintro e w9 ⟨rfl, hb⟩
       have HB9 : Hid (Below w.heap.size w w9) := Lib.hid (below_step HB2.out hb)
       clear hb
       go_wp2_with fail
       go_ret
       exact ⟨rfl, HB9.out⟩
      ·have q5 := decide_eq_false hg
       have hex : checkF n0 n1 n2 n3 n4 l5 l6 = 0 := by
        have h2 := HPR.out
        unfold encodeF at h2
        by_cases hc : checkF n0 n1 n2 n3 n4 l5 l6 = 0
        ·exact hc
        ·rw [if_neg hc] at h2
         have h3 := congrArg Prod.snd h2
         simp only at h3
         exact absurd (h3.trans h1) hc
       have hbs : bE = sealed n0 n1 n2 n3 n4 l5 l6 := by
        have h2 := HPR.out
        unfold encodeF at h2
        rw [if_pos hex] at h2
        exact (congrArg Prod.fst h2).symm
       have hel := encT_len HB6.out hex
       obtain ⟨BB, hBB⟩ : ∃ BB, encB n0 n1 n2 n3 n4 l5 l6 = BB := ⟨_, rfl⟩
       have hBy : Byt BB := by rw [← hBB]; exact Byt.encB n0 n1 n2 n3 n4 l5 l6
       have hBl : BB.length ≤ 4000000002 := by
        rw [← hBB]
        unfold encB
        rw [List.length_append]
        simp only [List.length_cons, List.length_nil]
        omega
       unfold L.sealed at hbs
       rw [hBB] at hbs
       have hbl : bE.length = BB.length + 4 := by rw [hbs, List.length_append, digs_len]
       have v4 : j4 = (BB.length : Int) := by rw [← hj4, w64 _ (by omega)]; omega
       have v8 : j8 = 8 * (BB.length : Int) := by rw [← hj8, w64 _ (by omega)]; omega
       have v16 : j16 = 8 * (BB.length : Int) - 16 := by rw [← hj16, w64 _ (by omega)]; omega
       obtain ⟨an, han⟩ : ∃ an : Nat, at_ = (an : Int) := ⟨at_.toNat, by omega⟩
       obtain ⟨Fn, hFn⟩ : ∃ Fn : Nat, flip = (Fn : Int) := ⟨flip.toNat, by omega⟩
       have hF0 : Fn ≠ 0 := by omega
       have hF1 : Fn < 65536 := by omega
       have ha16 : an + 16 ≤ 8 * BB.length := by omega
       have HDM : Hid (frame_Decode.f 0 (flipN an Fn bE 16) = some (0, 0, 0, 0, 0, [], [], 12)) := Lib.hid (by rw [hbs]; exact damaged BB hBy (by omega) an Fn ha16 hF0 hF1 0)
       have HLB : Hid (bE.length = BB.length + 4) := Lib.hid hbl
       have HBB : Hid (BB.length ≤ 4000000002) := Lib.hid hBl
       have HAN := Lib.hid han
       have HFN := Lib.hid hFn
       have HA16 := Lib.hid ha16
       clear hex hbs hel hBB hBy hBl hbl v4 v8 v16 han hFn hF0 hF1 ha16
       have HSE : Hid (Kd.R (Kd.int .u8) 5 (w2.alloc (Obj.cells #[] 5)) w.heap.size (fun _ => True) (.slice (some ⟨w2.heap.size, 0, none⟩) 0 0) []) := Lib.hid (R_emptyD HB2.out.size)
       have HBE : Hid (Below w.heap.size w (w2.alloc (Obj.cells #[] 5))) := Lib.hid (below_alloc HB2.out _)
       have HCE2 : Hid (Kd.C (Kd.int .u8) (w2.alloc (Obj.cells #[] 5)) AE bE.length bE) := Lib.hid (Kd.C_below HCE.out (below_alloc (Below.refl _ _) _))
       go_wp2_with (first
        | ((with_reducible refine gate_builtin (b := .append) (xs := #[.tmp 47, .tmp 48]) rfl ?_); at_builtin; refine Kd.R_append_rows (Kd.int .u8) (w0 := w) w.heap.size rfl (.tmp 47) (.tmp 48) 22 5 (.int .u8 0) 1 rfl Tryd.underlying22 (by kernel_rfl) rfl (by decide) (by omega) (.slice (some ⟨w2.heap.size, 0, none⟩) 0 0) [] bE AE bE.length cE (fun _ => True) (fun _ => False) rfl rfl HSE.out HCE2.out (fun _ _ h => h) (fun _ h => h.elim) (fun _ _ => trivial) HBE.out HBE.out.size (by have h1 := HLB.out; have h2 := HBB.out; rw [List.length_nil]; omega) ?_; intro v9 w3 ho hb hg hat9; rw [List.nil_append] at ho; have HO3 := Lib.hid ho; have HB3 := Lib.hid hb; clear ho hb hg hat9))
       obtain ⟨go, co, eo, gb, gl, cl, HG⟩ := Kd.R_form HO3.out (by have := HLB.out; omega)
       subst eo
       have GB := Lib.hid gb
       clear gb gl HG cl
       go_loopg [10] 17 (fun kq v10 w' => ∃ (i : Nat) (x : Int), v10 = .int .i64 x ∧ Hid (x = (i : Int)) ∧ Hid (i ≤ 16) ∧ Hid (i + kq = 17) ∧ Hid (Kd.R (Kd.int .u8) 5 w' w.heap.size (fun _ => True) (.slice (some ⟨go, 0, none⟩) bE.length co) (flipN an Fn bE i)) ∧ Hid (Below w.heap.size w w'))
       case atStart => exact ⟨0, 0, rfl, Lib.hid rfl, Lib.hid (by omega), Lib.hid (by omega), Lib.hid HO3.out, Lib.hid HB3.out⟩
       case round =>
        clear HO3 HB3 HSE HBE HCE2 q1 q2 q3 q4 q5 hj4 hj8 hj16 hj4w hj8w hj16w z0
        obtain ⟨i, x, rfl, HX, HI, HA, HO, HB⟩ := hrel
        cases gk with
        | zero => exact absurd HA.out (by have := HI.out; omega)
        | succ k1 =>
         by_cases hlt : i < 16
         ·have c33 := decide_eq_true (show x < 16 from by have := HX.out; omega)
          obtain ⟨j34, h34⟩ : ∃ j : Int, IntKind.u64.wrap x = j := ⟨_, rfl⟩
          have V34 : Hid (j34 = (i : Int)) := Lib.hid (by
           rw [← h34, HX.out]
           simp [IntKind.wrap, IntKind.bits, IntKind.signed]
           omega)
          have c35 := eq_true (show 0 ≤ j34 from by have := V34.out; omega)
          have c35b := decide_eq_true (show 0 ≤ j34 from by have := V34.out; omega)
          obtain ⟨j36, h36⟩ : ∃ j : Int, (shr .u16 flip j34) = j := ⟨_, rfl⟩
          have h36_ : (flip / 2 ^ min j34.toNat 16) = j36 := h36
          have h36z : j34 ≤ 16 → (flip / 2 ^ j34.toNat) = j36 := shr_small h36
          have V36 : Hid (bits .and .u16 j36 1 = if Fn.testBit i = true then 1 else 0) := Lib.hid (by
           rw [← h36_, V34.out, Int.toNat_natCast, Nat.min_eq_left (by omega), HFN.out]
           exact flip_bit Fn i (by have := HFN.out; omega))
          cases hbit : Fn.testBit i
          ·have c37 : (bits .and .u16 j36 1 == 1) = false := by rw [V36.out, hbit]; rfl
           have HT := Lib.hid hbit
           clear hbit h36z
           go_wp2_with fail
           go_roundg k1
           case measure => have := HA.out; omega
           case rel => exact ⟨i + 1, wrap64 (x + 1), by go_num, Lib.hid (by rw [HX.out, w64 _ (by omega)]; omega), Lib.hid (by omega), Lib.hid (by have := HA.out; omega), Lib.hid (by rw [flipN, HT.out]; exact HO.out), Lib.hid HB.out⟩
          ·have c37 : (bits .and .u16 j36 1 == 1) = true := by rw [V36.out, hbit]; rfl
           have HT := Lib.hid hbit
           clear hbit h36z
           obtain ⟨cur, hcur⟩ : ∃ cur, flipN an Fn bE i = cur := ⟨_, rfl⟩
           have HLC : Hid (cur.length = bE.length) := Lib.hid (by rw [← hcur, flipN_len])
           have HO2 : Hid (Kd.R (Kd.int .u8) 5 wr w.heap.size (fun _ => True) (.slice (some ⟨go, 0, none⟩) bE.length co) cur) := Lib.hid (by rw [← hcur]; exact HO.out)
           have HCUR := Lib.hid hcur
           clear hcur HO
           obtain ⟨j38, h38⟩ : ∃ j : Int, (wrap64 (Int.tdiv (wrap64 (at_ + x)) 8)) = j := ⟨_, rfl⟩
           have h38w : (IntKind.i64.wrap (Int.tdiv (wrap64 (at_ + x)) 8)) = j38 := (i64_w _).trans h38
           have V38 : Hid (j38 = (((an + i) / 8 : Nat) : Int)) := Lib.hid (by
            have h1 := HA16.out
            have h2 := HBB.out
            rw [← h38, HAN.out, HX.out, w64 ((an : Int) + (i : Int)) (by omega), show (an : Int) + (i : Int) = ((an + i : Nat) : Int) from by omega, Int.tdiv_eq_ediv_of_nonneg (by omega), w64 _ (by omega)]
            omega)
           have h38l : j38 < (cur.length : Int) := by
            have h1 := V38.out
            have h2 := HLC.out
            have h3 := HLB.out
            have h4 := HA16.out
            omega
           have h38g : 0 ≤ j38 := by have h1 := V38.out; omega
           have c39 : decide (0 ≤ j38) = true := decide_eq_true h38g
           have c40 : decide (j38 < (bE.length : Int)) = true := decide_eq_true (by have := HLC.out; omega)
           obtain ⟨j41, h41⟩ : ∃ j : Int, (IntKind.u64.wrap (wrap64 (7 - (Int.tmod (wrap64 (at_ + x)) 8)))) = j := ⟨_, rfl⟩
           have V41 : Hid (j41 = ((7 - (an + i) % 8 : Nat) : Int)) := Lib.hid (by
            have h1 := HA16.out
            have h2 := HBB.out
            rw [← h41, HAN.out, HX.out, w64 ((an : Int) + (i : Int)) (by omega), show (an : Int) + (i : Int) = ((an + i : Nat) : Int) from by omega, Int.tmod_eq_emod_of_nonneg (by omega), w64 _ (by omega)]
            simp [IntKind.wrap, IntKind.bits, IntKind.signed]
            omega)
           have c42 := eq_true (show 0 ≤ j41 from by have := V41.out; omega)
           have c42b := decide_eq_true (show 0 ≤ j41 from by have := V41.out; omega)
           obtain ⟨j43, h43⟩ : ∃ j : Int, (shl .u8 1 j41) = j := ⟨_, rfl⟩
           have h43_ : (IntKind.u8.wrap (1 * 2 ^ min j41.toNat 8)) = j43 := h43
           have h43z : j41 ≤ 8 → (IntKind.u8.wrap (1 * 2 ^ j41.toNat)) = j43 := shl_small h43
           have h43u : (IntKind.u8.wrap (2 ^ min j41.toNat 8)) = j43 := by
            have h_ := h43_
            rw [Int.one_mul] at h_
            exact h_
           have h43v : j41 ≤ 8 → (IntKind.u8.wrap (2 ^ j41.toNat)) = j43 := fun hle_ => by
            have h_ := h43z hle_
            rw [Int.one_mul] at h_
            exact h_
           have V43 : Hid (j43 = ((2 ^ (7 - (an + i) % 8) : Nat) : Int)) := Lib.hid (by
            rw [← h43u, V41.out, Int.toNat_natCast, Nat.min_eq_left (by omega)]
            exact pow_wrap ((an + i) % 8))
           have h38b : j38 < (bE.length : Int) := by
            have h1 := HLC.out
            omega
           obtain ⟨ad1, e1, hx1⟩ := Kd.at_int (Kd.R_reads' HO2.out).2.2 j38 h38g h38l
           cases e1
           have p1 := eq_true h38g
           have p2 := eq_true h38b
           (first | simp only [add_plain] at hx1 | skip)
           obtain ⟨hx2, hf2⟩ := Kd.R_celln 0 HO2.out j38 h38g h38b
           clear h38b
           clear h38g h38l
           have HP := Kd.R_putg HO2.out j38 (bits .xor .u8 (rd cur j38) j43)
           have HP1 := Lib.hid HP.1
           have HP2 := Lib.hid HP.2
           clear HP
           go_wp2_with (first | ((with_reducible refine gate_store (t := 5) (p := 75) rfl ?_); refine store_event (t := 5) (p := 75) (v := ?vo) (w1 := (wr.setCell ⟨go, (j38 : Int).toNat, none⟩ (.int .u8 (bits .xor .u8 (rd cur j38) j43)))) ?hg ?ho ?hn ?hr ?_; (case ho => rfl); (case hg => rfl); (case hn => rfl); (case hr => first | (go_simp; done) | (go_simp; rfl)); intro w47 hw; have HO4 : Hid (Kd.R (Kd.int .u8) 5 w47 w.heap.size (fun _ => True) (.slice (some ⟨go, 0, none⟩) bE.length co) (cur.set j38.toNat (bits .xor .u8 (rd cur j38) j43))) := Lib.hid (by rw [hw]; exact HP1.out); have HB4 : Hid (Below w.heap.size w w47) := Lib.hid (by rw [hw]; exact below_set HB.out GB.out); clear hw))
           go_roundg k1
           case measure => have := HA.out; omega
           case rel => exact ⟨i + 1, wrap64 (x + 1), by go_num, Lib.hid (by rw [HX.out, w64 _ (by omega)]; omega), Lib.hid (by omega), Lib.hid (by have := HA.out; omega), Lib.hid (by
            have h5 := HO4.out
            rw [V38.out, V43.out, Int.toNat_natCast] at h5
            rw [flipN, if_pos HT.out, HCUR.out]
            exact h5), Lib.hid HB4.out⟩
         ·have c33 := decide_eq_false (show ¬ x < 16 from by have := HX.out; omega)
          obtain rfl : i = 16 := by have := HI.out; omega
          obtain ⟨cN, hcN⟩ : ∃ cN, flipN an Fn bE 16 = cN := ⟨_, rfl⟩
          have hcl : cN.length = bE.length := by rw [← hcN, flipN_len]
          have HCC : Hid (cN.length ≤ co ∧ Kd.C (Kd.int .u8) wr (some ⟨go, 0, none⟩) cN.length cN) := Lib.hid (by
           have h1 := Kd.R_reads' HO.out
           rw [hcN] at h1
           exact ⟨by rw [hcl]; exact h1.2.1, h1.2.2⟩)
          rw [hcN] at HDM
          have HCL := Lib.hid hcl.symm
          clear hcl HO hcN
          go_wp2_with fail
          rw [HCL.out]
          refine (frame_Decode.calls 0 (some ⟨go, 0, none⟩) co cN 0 0 0 0 0 [] [] 12 wr (HL.out.below HB.out) HCC.out.2 HCC.out.1 HDM.out).mono ?_
          rintro e w5 ⟨v0, v1, rfl, hr0, hr1, hb5⟩
          obtain ⟨A7, c7, rfl, -, -⟩ := Kd.R_reads hr0
          obtain ⟨A8, c8, rfl, -, -⟩ := Kd.R_reads hr1
          have HB5 : Hid (Below w.heap.size w w5) := Lib.hid (below_step HB.out hb5)
          clear hr0 hr1 hb5
          go_wp2_with fail
          obtain ⟨W6, hW6⟩ : ∃ W6, w5.alloc (Obj.cells #[.int .i64 0, .int .i64 0, .int .i64 0, .int .i64 0, .int .i64 0, .slice A7 0 c7, .slice A8 0 c8] 31) = W6 := ⟨_, rfl⟩
          have HB6w : Hid (Below w.heap.size w W6) := Lib.hid (by rw [← hW6]; exact below_alloc HB5.out _)
          simp only [hW6]
          refine (salchowlaw49_awake.calls true W6 (HL.out.below HB6w.out) rfl).mono ?_
          rintro e w9 ⟨rfl, hb9⟩
          have HB9 : Hid (Below w.heap.size w w9) := Lib.hid (below_step HB6w.out hb9)
          clear hb9
          go_wp2_with fail
          go_ret
          exact ⟨rfl, HB9.out⟩
   ·have q1 : (eE == 0) = false := beq_eq_false_iff_ne.2 h1
    have q2 : (eE != 0) = true := bne_iff_ne.2 h1
    go_wp2_with fail
    refine (salchowlaw49_awake.calls true w2 (HL.out.below HB2.out) rfl).mono ?_
    rintro e w9 ⟨rfl, hb⟩
    have HB9 : Hid (Below w.heap.size w w9) := Lib.hid (below_step HB2.out hb)
    clear hb
    go_wp2_with fail
    go_ret
    exact ⟨rfl, HB9.out⟩
end Go.Proofs.YtfpopmojlmpopaaDoor.H

end
