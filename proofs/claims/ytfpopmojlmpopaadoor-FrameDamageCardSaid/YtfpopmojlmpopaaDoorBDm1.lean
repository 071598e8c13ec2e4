/-
  Part 1 of the proof: words about memory and rows, functions of the program as Lean functions with the contracts that its code comes to just their answers, and plain lemmas; no conditions of its own.
-/
import Derived.Test.YtfpopmojlmpopaaDoorProg
import Derived.Below
import Derived.Deep.Draws
import Derived.Deep.AppendLies
import Derived.Maps.AppendAt
import Derived.OwnWalk
import Derived.Laws.BytesArg
import Derived.Laws.MakeOwn
import Derived.Laws.OwnMore
import Derived.Deep.OwnRows
import Derived.Tactics
import Derived.Lib.ConvBytes
import Derived.Laws.Slices
import Derived.WalkKit
import Derived.KernelRfl
import Derived.RowKit3
import Derived.Deep.LoopGhost
import Derived.Deep.QuietTactic
import Derived.BigQuiet
import Derived.WideLaws
import Derived.Deep.DeepCutAuto
import Derived.Deep.CutBlock
import Derived.Deep.RegionHeld3
import Derived.Laws.Rows
import Derived.Lib.AppendStr
import Derived.ArgAppend
import Derived.Laws.IdiomCopy
import Derived.OrdersHeld
import Derived.Laws.BitsLemmas
import Derived.RowKit
import Derived.Lib.Hide
import Derived.Outline
import Derived.Laws.Closers25b
import Derived.Laws.BitsAllLaws
import Derived.Shelf.Strings.Builder1
import Derived.Shelf.Strings.Builder2
import Derived.Shelf.Strings.BuilderF
import Derived.Shelf.Strconv.Atoi
import Derived.Shelf.Strconv.Itoa0
import Derived.Shelf.Strconv.Itoa1
import Derived.Shelf.LaysM
import Derived.Shelf.Strconv.Itoa2
import Derived.Shelf.Strconv.Itoa3
import Derived.Shelf.Strconv.AtoiErrFast
import Derived.Shelf.Strconv.ParseIntEmpty
import Derived.Shelf.Strconv.AtoiFail
import Derived.Shelf.Strconv.Clone
import Derived.Shelf.Strconv.SyntaxError
import Derived.Shelf.LaysC
import Derived.Shelf.Strconv.ToError
import Derived.Shelf.Strconv.Lower
import Derived.Shelf.Strconv.ParseUint10
import Derived.Shelf.Strconv.ParseUint10Empty
import Derived.Shelf.Strconv.ParseUint10Any
import Derived.Shelf.Strconv.ParseInt10
import Derived.Shelf.Strconv.AtoiLong
import Derived.Shelf.Strconv.AtoiInnerAll
import Derived.Shelf.Strconv.RangeError
import Derived.Shelf.Strconv.ToErrorRange
import Derived.Shelf.Strconv.AtoiAll
import Derived.Shelf.Strconv.ErrVarAll
import Derived.Shelf.Strconv.ParseUintEmpty
import Derived.Shelf.Strconv.ParseUint10b64
import Derived.Shelf.Strconv.ParseUint10b32
import Derived.Shelf.Strconv.ParseUint10b16
import Derived.Shelf.Strconv.ParseUint10b8
import Derived.Shelf.Strconv.ParseUint10At
import Derived.Shelf.Strconv.ParseInt10At64
import Derived.Shelf.Strconv.ParseInt10At32
import Derived.Shelf.Strconv.ParseInt10At16
import Derived.Shelf.Strconv.ParseInt10At8
import Derived.Shelf.Strconv.ParseInt10All
import Derived.Shelf.Strconv.ParseIntPublic10
import Derived.Shelf.Strconv.ErrVarParseInt
import Derived.Shelf.Strconv.AppendUint10
import Derived.Shelf.Strconv.AppendInt10
import Derived.Shelf.Strconv.AppendIntPublic10
import Derived.Shelf.Strings.Prefix
import Derived.Shelf.Bits.Mul64
import Derived.Shelf.Strings.Repeat
import Derived.Shelf.Slices.Equal
import Derived.Shelf.Slices.Empties2
import Derived.Lib.BufferKept
import Derived.Lib.UnsafeStr
import Derived.Lib.OwnKind
import Derived.Lib.Slices
import Derived.BigCall
import Derived.BigGuard
import Derived.CellFam
import Derived.Laws.StructEq
import Derived.Test.YtfpopmojlmpopaaDoorRows
import Derived.Test.YtfpopmojlmpopaaDoorChecked
import Derived.ProofKit
import Derived.OpenShut
import Derived.ShutString
import Derived.ChangeOld
import Derived.SizedLaws
import Derived.Carry
import Derived.MakeChecks
import Derived.Lay
import Derived.Deep.Slices
import Derived.Deep.Strs
import Derived.Lib.LaidTab
import Derived.Stop.LaidErr
import Derived.Test.YtfpopmojlmpopaaDoorBDm0
section
namespace Go.Proofs.YtfpopmojlmpopaaDoor.H
open Go.RowKit Go.Proofs.YtfpopmojlmpopaaDoorW.PrintWords Go.Proofs.YtfpopmojlmpopaaDoorW.PrintLast Go.Proofs.YtfpopmojlmpopaaDoorW.PrintMore
set_option linter.unusedVariables false
def stepc (s : Int) : Int := if (bits BinOp.and IntKind.u16 s 32768 != 0) = true then bits BinOp.xor IntKind.u16 (IntKind.u16.wrap (s * 2)) 4129 else IntKind.u16.wrap (s * 2)
def itc : Nat → Int → Int
 | 0, s => s
 | n + 1, s => stepc (itc n s)
def eff (b : Nat) : Int := itc 8 ((b : Int) * 256)
def effTab : List Int := (List.range 256).map eff
theorem below_setRow {B : Nat} {a w : World} (h : Below B a w) {g : Nat} (hg : B ≤ g) (cs : Array Value) : Below B a (w.setRow g cs) :=
 h.trans ⟨rfl, rfl, rfl, by simp, fun k hk => setRow_other w g k cs (by omega)⟩
def EffRow (w : World) (k : Nat) (wr : World) : Prop := ∃ arr : Array Value, wr.heap[w.heap.size]? = some (.cells arr 53 (0, 0)) ∧ arr.size = 256 ∧ (∀ j, j < k → arr[j]? = some (.int .u16 (eff j))) ∧ (∀ j, k ≤ j → j < 256 → arr[j]? = some (.int .u16 0)) ∧ Below w.heap.size w wr
theorem EffRow.start (w : World) : EffRow w 0 (w.alloc (.cells Tryd.zeroCells53 53)) := by
 have hz : Tryd.zeroCells53 = Array.replicate 256 (.int .u16 0) := by kernel_rfl
 refine ⟨_, heap_alloc_new _ _, by rw [hz]; simp, fun j h => absurd h (Nat.not_lt_zero _), fun j _ h => by rw [hz]; simp [h], (Below.refl _ _).alloc (Nat.le_refl _) _⟩
theorem EffRow.store {w wr : World} {k : Nat} (h : EffRow w k wr) (hk : k < 256) : EffRow w (k + 1) (wr.setCell ⟨w.heap.size, k, none⟩ (.int .u16 (eff k))) := by
 obtain ⟨arr, h1, h2, h3, h4, h5⟩ := h
 refine ⟨_, heap_setCell_same _ _ _ _ _ _ h1, by simpa using h2, fun j hj => ?_, fun j hj hj2 => ?_, h5.setCell (Nat.le_refl _) _⟩
 ·by_cases e : k = j
  ·subst e; simp [h2, hk]
  ·rw [Array.getElem?_setIfInBounds_ne e]; exact h3 j (by omega)
 ·rw [Array.getElem?_setIfInBounds_ne (by omega)]; exact h4 j (by omega) hj2
theorem EffRow.cell {w wr : World} {k : Nat} (h : EffRow w k wr) (hk : k < 256) : wr.cell? ⟨w.heap.size, k, none⟩ = some (.int .u16 0) := by
 obtain ⟨arr, h1, h2, h3, h4, h5⟩ := h
 rw [cell_of_row _ _ _ _ _ _ h1]; exact h4 k (Nat.le_refl _) hk
theorem EffRow.free {w wr : World} {k : Nat} (h : EffRow w k wr) (j : Nat) : wr.frozen? ⟨w.heap.size, j, none⟩ = false := by
 obtain ⟨arr, h1, h2, h3, h4, h5⟩ := h
 exact frozen_of_row _ _ _ _ _ h1
theorem EffRow.full {w wr : World} (h : EffRow w 256 wr) : wr.heap[w.heap.size]? = some (.cells (nums .u16 effTab).toArray 53 (0, 0)) ∧ Below w.heap.size w wr := by
 obtain ⟨arr, h1, h2, h3, h4, h5⟩ := h
 refine ⟨?_, h5⟩
 have e : arr = (nums .u16 effTab).toArray := by
  apply Array.ext_getElem?
  intro i
  by_cases hi : i < 256
  ·rw [h3 i hi]; simp [nums, effTab, hi]
  ·rw [Array.getElem?_eq_none (by omega)]; simp [nums, effTab, hi]
 rw [h1, e]
theorem effTab_length : effTab.length = 256 := by simp [effTab]
theorem effArr_size : (nums .u16 effTab).toArray.size = 256 := by simp [nums, effTab_length]
theorem effArr_one : (nums .u16 effTab).toArray.all (·.oneCell') = true := by
 simp [nums, Value.oneCell']
set_option maxHeartbeats 400000 in
set_option maxRecDepth 100000 in
theorem effects_calls (w : World) : Calls Tryd.prog 27 #[] w fun e w' => e = .returned (.agg (nums .u16 effTab).toArray) ∧ Below w.heap.size w w' := by
 go_enter Tryd.func27, Tryd.ntmps27
 go_wp2_with fail
 go_loopw [4] (fun v wr => ∃ k : Nat, k ≤ 256 ∧ v = .int .i64 k ∧ EffRow w k wr) (fun v _ => 256 - (intOf v).toNat)
 case atStart => exact ⟨0, by omega, rfl, EffRow.start w⟩
 case round =>
  obtain ⟨k, hk, rfl, hE⟩ := hrel
  have HE := Lib.hid hE
  clear hE
  by_cases hlt : k < 256
  ·go_wp2_with fail
   obtain ⟨wo, rfl⟩ : ∃ wo : World, wo = wr := ⟨_, rfl⟩
   go_loop [2, 10] (fun s v => ∃ j : Nat, j ≤ 8 ∧ v = .int .i64 j ∧ s = .int .u16 (itc j ((k : Int) * 256))) (fun _ v => 8 - (intOf v).toNat)
   case atStart => exact ⟨0, by omega, rfl, rfl⟩
   case round =>
    obtain ⟨j, hj, rfl, rfl⟩ := hrel
    by_cases hl2 : j < 8
    ·go_wp2_with fail
     ·have hb : (bits BinOp.and IntKind.u16 (itc j (↑k * 256)) 32768 != 0) = true := by assumption
      go_round
      case rel => exact ⟨j + 1, by omega, by go_num, by simp only [itc, stepc]; rw [if_pos hb]⟩
      case measure => simp [intOf]; omega
     ·have hb : (bits BinOp.and IntKind.u16 (itc j (↑k * 256)) 32768 != 0) = false := by assumption
      go_round
      case rel => exact ⟨j + 1, by omega, by go_num, by simp only [itc, stepc]; rw [if_neg (by rw [hb]; exact Bool.false_ne_true)]⟩
      case measure => simp [intOf]; omega
    ·have hcell := EffRow.cell HE.out hlt
     have hfz := EffRow.free HE.out k
     obtain rfl : j = 8 := by omega
     go_wp2_with fail
     go_roundw
     case rel => exact ⟨k + 1, by omega, by go_num, EffRow.store HE.out hlt⟩
     case measure => simp [intOf]; omega
  ·obtain rfl : k = 256 := by omega
   obtain ⟨hg, hb⟩ := EffRow.full HE.out
   have HG := Lib.hid hg
   have HB := Lib.hid hb
   clear hg hb HE
   go_wp2_with (first
    | (with_reducible refine wpList_load_row rfl _ _ rfl w.heap.size rfl 53 (nums .u16 effTab).toArray (0, 0) _ HG.out Tryd.underlying53 rfl (by rw [effArr_size]; kernel_rfl) ?_)
    | (with_reducible refine wpList_store_row rfl _ _ _ rfl w.heap.size (nums .u16 effTab).toArray rfl rfl 53 _ HG.out (by rw [effArr_size]; kernel_rfl) rfl effArr_one ?_))
   exact bodyPost_ret (v := .agg (nums .u16 effTab).toArray) (results_cell_row rfl _ _ w.heap.size 53 _ (0, 0) _ rfl (setRow_heap _ _ _ _ _ _ HG.out) Tryd.underlying53 rfl (by rw [effArr_size]; kernel_rfl)) rfl ⟨rfl, below_setRow HB.out (Nat.le_refl _) _⟩
def sumStep (s x : Int) : Int := bits .xor .u16 (IntKind.u16.wrap (s * 256)) (rd effTab (bits .xor .u8 ((s / 256) % 256) x))
def crcL (s : Int) (l : List Int) : Int := l.foldl sumStep s
def okBytes (l : List Int) : Bool := l.all (fun x => decide (0 ≤ x) && decide (x ≤ 255)) && decide (l.length ≤ 140737488351232)
def frame_Sum.f (l0 : List Int) : Option Int := if okBytes l0 = true then some (crcL 65535 l0) else none
theorem okBytes_at {l : List Int} (h : okBytes l = true) (i : Nat) (hi : i < l.length) : 0 ≤ rd l i ∧ rd l i ≤ 255 := by
 simp only [okBytes, Bool.and_eq_true, List.all_eq_true, decide_eq_true_eq] at h
 have := h.1 l[i] (List.getElem_mem hi)
 simpa [rd, List.getD, hi] using this
theorem okBytes_len {l : List Int} (h : okBytes l = true) : l.length ≤ 140737488351232 := by
 simp only [okBytes, Bool.and_eq_true, decide_eq_true_eq] at h; exact h.2
theorem crc_snoc (s : Int) (l : List Int) (k : Nat) (hk : k < l.length) : crcL s (l.take (k + 1)) = sumStep (crcL s (l.take k)) (rd l k) := by
 rw [List.take_succ_eq_append_getElem hk, crcL, List.foldl_append]
 simp [crcL, rd, List.getD, hk]
theorem effCell {W : World} {g : Nat} (hg : W.heap[g]? = some (.cells (nums .u16 effTab).toArray 53 (0, 0))) (i : Int) (h0 : 0 ≤ i) (h1 : i ≤ 255) : W.cell? ⟨g, i.toNat, none⟩ = some (.int .u16 (rd effTab i)) := by
 rw [cell_of_row _ _ _ _ _ _ hg]
 have hl : i.toNat < effTab.length := by rw [effTab_length]; omega
 simp [nums, rd, List.getD, hl]
set_option maxHeartbeats 400000 in
set_option maxRecDepth 100000 in
theorem frame_Sum.calls (A0 : Option Addr) (c0 : Nat) (l0 : List Int) (r : Int) (w : World) (hr0 : Kd.C (Kd.int .u8) w A0 l0.length l0) (hc0 : l0.length ≤ c0) (h : frame_Sum.f l0 = some r) :
  Calls Tryd.prog 11 #[.slice A0 l0.length c0] w fun e w' => e = .returned (.int .u16 r) ∧ Below w.heap.size w w' := by
 have hok : okBytes l0 = true := by
  unfold frame_Sum.f at h; split at h
  ·assumption
  ·cases h
 have hrr : crcL 65535 l0 = r := by
  unfold frame_Sum.f at h; rw [if_pos hok] at h; exact Option.some.inj h
 have HR := Lib.hid hrr
 have HK := Lib.hid hok
 have HC := Lib.hid hr0
 have hlen := okBytes_len hok
 clear h hrr hok hr0
 go_enter Tryd.func11, Tryd.ntmps11
 go_wp2_with fail
 refine (effects_calls _).mono ?_
 rintro e w1 ⟨rfl, hb1⟩
 have HB1 := Lib.hid hb1
 clear hb1
 go_wp2_with (first
    | (with_reducible refine wpList_store_row rfl _ _ _ rfl w1.heap.size (nums .u16 effTab).toArray rfl rfl 53 _ (heap_alloc_new _ _) (by rw [effArr_size]; kernel_rfl) (by rw [effArr_size]; kernel_rfl) effArr_one ?_))
 obtain ⟨W2, hW2⟩ : ∃ W2 : World, (w1.alloc (Obj.cells Tryd.zeroCells53 53)).setRow w1.heap.size (nums IntKind.u16 effTab).toArray = W2 := ⟨_, rfl⟩
 have HB2 : Hid (Below w.heap.size w W2) := Lib.hid (by rw [← hW2]; exact below_setRow ((HB1.out).alloc HB1.out.size _) HB1.out.size _)
 have HG2 : Hid (W2.heap[w1.heap.size]? = some (.cells (nums .u16 effTab).toArray 53 (0, 0))) := Lib.hid (by rw [← hW2]; exact setRow_heap _ _ _ _ _ _ (heap_alloc_new _ _))
 have HC2 : Hid (Kd.C (Kd.int .u8) W2 A0 l0.length l0) := Lib.hid (Kd.C_below HC.out HB2.out)
 rw [hW2]
 clear hW2 HC
 go_loop [4, 10] (fun s v => ∃ k : Nat, k ≤ l0.length ∧ v = .int .i64 k ∧ s = .int .u16 (crcL 65535 (l0.take k))) (fun _ v => l0.length - (intOf v).toNat)
 case atStart => exact ⟨0, by omega, rfl, rfl⟩
 case round =>
  obtain ⟨k, hk, rfl, rfl⟩ := hrel
  by_cases hlt : k < l0.length
  ·obtain ⟨ad, rfl, hcell⟩ := Kd.at_int HC2.out k (by omega) (by omega)
   have hby := okBytes_at HK.out k hlt
   have hsn := Lib.hid (crc_snoc 65535 l0 k hlt)
   rw [Int.toNat_natCast] at hcell
   have i0 := bits_lo_u8 .xor (crcL 65535 (List.take k l0) / 256 % 256) (rd l0 ↑k)
   have i1 := bits_hi_u8 .xor (crcL 65535 (List.take k l0) / 256 % 256) (rd l0 ↑k)
   have i2 : (0 ≤ bits .xor .u8 (crcL 65535 (List.take k l0) / 256 % 256) (rd l0 ↑k) ∧ bits .xor .u8 (crcL 65535 (List.take k l0) / 256 % 256) (rd l0 ↑k) < 256) = True := eq_true ⟨i0, by omega⟩
   have hec := effCell HG2.out _ i0 i1
   go_wp2_with fail
   go_round
   case rel => exact ⟨k + 1, by omega, by go_num, by rw [hsn.out]; rfl⟩
   case measure => simp [intOf]; omega
  ·go_wp2_with fail
   go_ret
   exact ⟨by rw [← HR.out]; rw [List.take_of_length_le (by omega)]; rfl, HB2.out⟩
theorem nib (s : Int) (h0 : 0 ≤ s) (h1 : s ≤ 65535) : 0 ≤ bits BinOp.and IntKind.u16 s 15 ∧ bits BinOp.and IntKind.u16 s 15 < 16 := by
 rw [u16_and s 15 h0 (by omega) (by omega) (by omega)]
 have : s.toNat &&& (15 : Int).toNat ≤ 15 := Nat.and_le_right
 omega
def dgt (s : Int) : Int := bt ⟨#[48, 49, 50, 51, 52, 53, 54, 55, 56, 57, 97, 98, 99, 100, 101, 102]⟩ (bits BinOp.and IntKind.u16 s 15)
def digs (s : Int) : List Int := [dgt (s / 4096), dgt (s / 256), dgt (s / 16), dgt s]
set_option maxHeartbeats 1000000 in
theorem digits_calls (s : Int) (h0 : 0 ≤ s) (h1 : s ≤ 65535) (w : World) : Calls Tryd.prog 34 #[.int .u16 s] w fun e w' => e = .returned (.agg #[.int .u8 (dgt (s / 4096)), .int .u8 (dgt (s / 256)), .int .u8 (dgt (s / 16)), .int .u8 (dgt s)]) ∧ Below w.heap.size w w' := by
 have n1 := eq_true (nib (s / 4096) (by omega) (by omega))
 have n2 := eq_true (nib (s / 256) (by omega) (by omega))
 have n3 := eq_true (nib (s / 16) (by omega) (by omega))
 have n4 := eq_true (nib s h0 h1)
 have x1 := bt_at ⟨#[48, 49, 50, 51, 52, 53, 54, 55, 56, 57, 97, 98, 99, 100, 101, 102]⟩ (bits BinOp.and IntKind.u16 (s / 4096) 15)
 have x2 := bt_at ⟨#[48, 49, 50, 51, 52, 53, 54, 55, 56, 57, 97, 98, 99, 100, 101, 102]⟩ (bits BinOp.and IntKind.u16 (s / 256) 15)
 have x3 := bt_at ⟨#[48, 49, 50, 51, 52, 53, 54, 55, 56, 57, 97, 98, 99, 100, 101, 102]⟩ (bits BinOp.and IntKind.u16 (s / 16) 15)
 have x4 := bt_at ⟨#[48, 49, 50, 51, 52, 53, 54, 55, 56, 57, 97, 98, 99, 100, 101, 102]⟩ (bits BinOp.and IntKind.u16 s 15)
 go_enter Tryd.func34, Tryd.ntmps34
 go_wp2_with fail
 refine wp_loop_rounds 5 ?_
 rw [rounds_succ]
 go_wp2_with fail
 rw [rounds_succ]
 go_wp2_with fail
 rw [rounds_succ]
 go_wp2_with fail
 rw [rounds_succ]
 go_wp2_with fail
 rw [rounds_succ]
 go_wp2_with fail
 refine bodyPost_ret (v := .agg #[.int .u8 (dgt (s / 4096)), .int .u8 (dgt (s / 256)), .int .u8 (dgt (s / 16)), .int .u8 (dgt s)]) (by simp [results, Tryd.results34, go_sem, dgt]) rfl ⟨rfl, ?_⟩
 exact ((Below.refl _ _).alloc (Nat.le_refl _) _).alloc (by simp) _
theorem crcL_range (s : Int) (l : List Int) (h0 : 0 ≤ s) (h1 : s ≤ 65535) : 0 ≤ crcL s l ∧ crcL s l ≤ 65535 := by
 induction l generalizing s with
 | nil => exact ⟨h0, h1⟩
 | cons x l ih => exact ih (sumStep s x) (bits_lo_u16 _ _ _) (bits_hi_u16 _ _ _)
theorem frame_Sum.range {l : List Int} {r : Int} (h : frame_Sum.f l = some r) : 0 ≤ r ∧ r ≤ 65535 := by
 unfold frame_Sum.f at h
 split at h
 ·cases h; exact crcL_range _ _ (by decide) (by decide)
 ·cases h
end Go.Proofs.YtfpopmojlmpopaaDoor.H

end
section
namespace Go.Proofs
open Go.Shelf
set_option linter.unusedVariables false
def Tryd.lays283_ren : Go.Shelf.Ren := ⟨fun | 283 => 81 | n => n, fun | 3 => 3 | 9 => 9 | 4 => 4 | n => n, fun | n => n⟩
theorem Tryd.lays283 : Go.Proofs.Lays.n283 Tryd.prog Tryd.lays283_ren := {
 mixed := by kernel_rfl
 f283 := Tryd.func81.trans (congrArg some (by kernel_rfl))
 t3 := Tryd.underlying3
 a3 := Tryd.isAgg3
 z3 := Tryd.sizeOf3
 v3 := Tryd.zeroValue3
 t4 := Tryd.underlying4
 a4 := Tryd.isAgg4
 z4 := Tryd.sizeOf4
 v4 := Tryd.zeroValue4
 t9 := Tryd.underlying9
 a9 := Tryd.isAgg9
 z9 := Tryd.sizeOf9
 v9 := Tryd.zeroValue9 }
open Go.Lib in
theorem Tryd.internal_strconv_small (i : Nat) (h : i < 100) (w : World) :
  Calls Tryd.prog 81 #[.int .i64 i] w fun e w' => e = .returned (.string ⟨(Lib.decDigits i).toArray⟩) ∧ w' = w := Any.internal_strconv_small Tryd.lays283 i h w
def Tryd.laysM284_ren : Go.Shelf.Ren := ⟨fun | 284 => 82 | 129 => 94 | 317 => 93 | 318 => 95 | n => n, fun | 53 => 111 | 3 => 3 | 212 => 136 | 0 => 0 | 4 => 4 | 46 => 36 | 5 => 5 | 9 => 9 | n => n, fun | 17 => 0 | n => n⟩
theorem Tryd.laysM284 : Go.Proofs.LaysM.n284 Tryd.prog Tryd.laysM284_ren := {
 mixed := by kernel_rfl
 f129 := Tryd.func94.trans (congrArg some (by kernel_rfl))
 f284 := Tryd.func82.trans (congrArg some (by kernel_rfl))
 f317 := Tryd.func93.trans (congrArg some (by kernel_rfl))
 f318 := Tryd.func95.trans (congrArg some (by kernel_rfl))
 t0 := Tryd.underlying0
 a0 := Tryd.isAgg0
 z0 := Tryd.sizeOf0
 v0 := Tryd.zeroValue0
 t3 := Tryd.underlying3
 a3 := Tryd.isAgg3
 z3 := Tryd.sizeOf3
 v3 := Tryd.zeroValue3
 t4 := Tryd.underlying4
 a4 := Tryd.isAgg4
 z4 := Tryd.sizeOf4
 v4 := Tryd.zeroValue4
 t5 := Tryd.underlying5
 a5 := Tryd.isAgg5
 z5 := Tryd.sizeOf5
 v5 := Tryd.zeroValue5
 t9 := Tryd.underlying9
 a9 := Tryd.isAgg9
 z9 := Tryd.sizeOf9
 v9 := Tryd.zeroValue9
 t46 := Tryd.underlying36
 a46 := Tryd.isAgg36
 z46 := Tryd.sizeOf36
 v46 := Tryd.zeroValue36
 t53 := Tryd.underlying111
 a53 := Tryd.isAgg111
 z53 := Tryd.sizeOf111
 v53 := Tryd.zeroValue111
 t212 := Tryd.underlying136
 a212 := Tryd.isAgg136
 z212 := Tryd.sizeOf136
 v212 := Tryd.zeroValue136
 g17 := by kernel_rfl
 i0 := by kernel_rfl
 i3 := by kernel_rfl
 i4 := by kernel_rfl
 i5 := by kernel_rfl
 i9 := by kernel_rfl
 i46 := by kernel_rfl
 i53 := by kernel_rfl
 i212 := by kernel_rfl
 m17 := by kernel_rfl }
open Go.Lib in
theorem Tryd.internal_strconv_numDigits (u : Nat) (h1 : 1 ≤ u) (h2 : u < 18446744073709551616) (w : World) (htab : Lib.TabIs Tryd.prog w "internal/strconv.uint64pow10" .u64 Lib.pow10Tab) :
  Calls Tryd.prog 82 #[.int .u64 u] w fun e w' => e = .returned (.int .i64 (Lib.nDigits u)) ∧ w' = w := Any.internal_strconv_numDigits Tryd.laysM284 u h1 h2 w htab
def Tryd.lays285_ren : Go.Shelf.Ren := ⟨fun | 285 => 83 | n => n, fun | 37 => 22 | 53 => 111 | 3 => 3 | 4 => 4 | 51 => 113 | 9 => 9 | 5 => 5 | 0 => 0 | n => n, fun | n => n⟩
theorem Tryd.lays285 : Go.Proofs.Lays.n285 Tryd.prog Tryd.lays285_ren := {
 mixed := by kernel_rfl
 f285 := Tryd.func83.trans (congrArg some (by kernel_rfl))
 t0 := Tryd.underlying0
 a0 := Tryd.isAgg0
 z0 := Tryd.sizeOf0
 v0 := Tryd.zeroValue0
 t3 := Tryd.underlying3
 a3 := Tryd.isAgg3
 z3 := Tryd.sizeOf3
 v3 := Tryd.zeroValue3
 t4 := Tryd.underlying4
 a4 := Tryd.isAgg4
 z4 := Tryd.sizeOf4
 v4 := Tryd.zeroValue4
 t5 := Tryd.underlying5
 a5 := Tryd.isAgg5
 z5 := Tryd.sizeOf5
 v5 := Tryd.zeroValue5
 t9 := Tryd.underlying9
 a9 := Tryd.isAgg9
 z9 := Tryd.sizeOf9
 v9 := Tryd.zeroValue9
 t37 := Tryd.underlying22
 a37 := Tryd.isAgg22
 z37 := Tryd.sizeOf22
 v37 := Tryd.zeroValue22
 t51 := Tryd.underlying113
 a51 := Tryd.isAgg113
 z51 := Tryd.sizeOf113
 v51 := Tryd.zeroValue113
 t53 := Tryd.underlying111
 a53 := Tryd.isAgg111
 z53 := Tryd.sizeOf111
 v53 := Tryd.zeroValue111 }
open Go.RowKit Go.Sort Go.Lib in
theorem Tryd.internal_strconv_formatBase10 (blk off cap : Nat) (u : Nat) (d : Array UInt8) (w : World) (hH : Holds (fun (b : UInt8) => Value.int .u8 (b.toNat : Int)) w blk off d) (hu : u < 10 ^ d.size) (hu64 : u < 18446744073709551616) (hsz : d.size < 4611686018427387904) :
  Calls Tryd.prog 83 #[.slice (some ⟨blk, off, none⟩) d.size cap, .int .u64 u] w fun e w' =>
   e = .returned (.tuple #[]) ∧ ∃ (n v' : Nat) (dk : Array UInt8), w' = (putRow (fun (b : UInt8) => Value.int .u8 (b.toNat : Int)) w blk off dk).drewN n ∧ FmtInv d.size u 0 v' dk := Any.internal_strconv_formatBase10 Tryd.lays285 blk off cap u d w hH hu hu64 hsz
def Tryd.laysC172_ren : Go.Shelf.Ren := ⟨fun | 172 => 80 | 244 => 92 | 245 => 79 | 247 => 78 | 279 => 88 | 280 => 89 | 281 => 90 | 282 => 91 | 287 => 87 | 316 => 100 | 171 => 102 | 205 => 101 | 321 => 98 | 322 => 99 | 243 => 105 | 246 => 106 | 283 => 81 | 284 => 82 | 285 => 83 | 286 => 84 | 129 => 94 | 317 => 93 | 318 => 95 | 319 => 96 | 320 => 97 | 337 => 103 | 338 => 104 | n => n, fun | 9 => 9 | 3 => 3 | 75 => 101 | 76 => 102 | 4 => 4 | 5 => 5 | 167 => 128 | 37 => 22 | 0 => 0 | 85 => 107 | 2 => 2 | 168 => 131 | 53 => 111 | 175 => 129 | 46 => 36 | 210 => 143 | 127 => 118 | 145 => 148 | 143 => 146 | 21 => 21 | 171 => 83 | 173 => 123 | 212 => 136 | 51 => 113 | 20 => 20 | 213 => 137 | 232 => 149 | 233 => 150 | 80 => 62 | n => n, fun | 15 => 2 | 16 => 3 | 17 => 0 | 18 => 4 | 19 => 5 | n => n⟩
theorem Tryd.laysC172 : Go.Proofs.LaysC.n172 Tryd.prog Tryd.laysC172_ren := {
 mixed := by kernel_rfl
 f129 := Tryd.func94.trans (congrArg some (by kernel_rfl))
 f171 := Tryd.func102.trans (congrArg some (by kernel_rfl))
 f172 := Tryd.func80.trans (congrArg some (by kernel_rfl))
 f205 := Tryd.func101.trans (congrArg some (by kernel_rfl))
 f243 := Tryd.func105.trans (congrArg some (by kernel_rfl))
 f244 := Tryd.func92.trans (congrArg some (by kernel_rfl))
 f245 := Tryd.func79.trans (congrArg some (by kernel_rfl))
 f246 := Tryd.func106.trans (congrArg some (by kernel_rfl))
 f247 := Tryd.func78.trans (congrArg some (by kernel_rfl))
 f279 := Tryd.func88.trans (congrArg some (by kernel_rfl))
 f280 := Tryd.func89.trans (congrArg some (by kernel_rfl))
 f281 := Tryd.func90.trans (congrArg some (by kernel_rfl))
 f282 := Tryd.func91.trans (congrArg some (by kernel_rfl))
 f283 := Tryd.func81.trans (congrArg some (by kernel_rfl))
 f284 := Tryd.func82.trans (congrArg some (by kernel_rfl))
 f285 := Tryd.func83.trans (congrArg some (by kernel_rfl))
 f286 := Tryd.func84.trans (congrArg some (by kernel_rfl))
 f287 := Tryd.func87.trans (congrArg some (by kernel_rfl))
 f316 := Tryd.func100.trans (congrArg some (by kernel_rfl))
 f317 := Tryd.func93.trans (congrArg some (by kernel_rfl))
 f318 := Tryd.func95.trans (congrArg some (by kernel_rfl))
 f319 := Tryd.func96.trans (congrArg some (by kernel_rfl))
 f320 := Tryd.func97.trans (congrArg some (by kernel_rfl))
 f321 := Tryd.func98.trans (congrArg some (by kernel_rfl))
 f322 := Tryd.func99.trans (congrArg some (by kernel_rfl))
 f337 := Tryd.func103.trans (congrArg some (by kernel_rfl))
 f338 := Tryd.func104.trans (congrArg some (by kernel_rfl))
 t0 := Tryd.underlying0
 a0 := Tryd.isAgg0
 z0 := Tryd.sizeOf0
 v0 := Tryd.zeroValue0
 t2 := Tryd.underlying2
 a2 := Tryd.isAgg2
 z2 := Tryd.sizeOf2
 v2 := Tryd.zeroValue2
 t3 := Tryd.underlying3
 a3 := Tryd.isAgg3
 z3 := Tryd.sizeOf3
 v3 := Tryd.zeroValue3
 t4 := Tryd.underlying4
 a4 := Tryd.isAgg4
 z4 := Tryd.sizeOf4
 v4 := Tryd.zeroValue4
 t5 := Tryd.underlying5
 a5 := Tryd.isAgg5
 z5 := Tryd.sizeOf5
 v5 := Tryd.zeroValue5
 t9 := Tryd.underlying9
 a9 := Tryd.isAgg9
 z9 := Tryd.sizeOf9
 v9 := Tryd.zeroValue9
 t20 := Tryd.underlying20
 a20 := Tryd.isAgg20
 z20 := Tryd.sizeOf20
 v20 := Tryd.zeroValue20
 t21 := Tryd.underlying21
 a21 := Tryd.isAgg21
 z21 := Tryd.sizeOf21
 v21 := Tryd.zeroValue21
 t37 := Tryd.underlying22
 a37 := Tryd.isAgg22
 z37 := Tryd.sizeOf22
 v37 := Tryd.zeroValue22
 t46 := Tryd.underlying36
 a46 := Tryd.isAgg36
 z46 := Tryd.sizeOf36
 v46 := Tryd.zeroValue36
 t51 := Tryd.underlying113
 a51 := Tryd.isAgg113
 z51 := Tryd.sizeOf113
 v51 := Tryd.zeroValue113
 t53 := Tryd.underlying111
 a53 := Tryd.isAgg111
 z53 := Tryd.sizeOf111
 v53 := Tryd.zeroValue111
 t75 := Tryd.underlying101
 a75 := Tryd.isAgg101
 z75 := Tryd.sizeOf101
 v75 := Tryd.zeroValue101
 t76 := Tryd.underlying102
 a76 := Tryd.isAgg102
 z76 := Tryd.sizeOf102
 v76 := Tryd.zeroValue102
 t85 := Tryd.underlying107
 a85 := Tryd.isAgg107
 z85 := Tryd.sizeOf107
 v85 := Tryd.zeroValue107
 t127 := Tryd.underlying118
 a127 := Tryd.isAgg118
 z127 := Tryd.sizeOf118
 v127 := Tryd.zeroValue118
 t143 := Tryd.underlying146
 a143 := Tryd.isAgg146
 z143 := Tryd.sizeOf146
 v143 := Tryd.zeroValue146
 t145 := Tryd.underlying148
 a145 := Tryd.isAgg148
 z145 := Tryd.sizeOf148
 v145 := Tryd.zeroValue148
 t167 := Tryd.underlying128
 a167 := Tryd.isAgg128
 z167 := Tryd.sizeOf128
 v167 := Tryd.zeroValue128
 t168 := Tryd.underlying131
 a168 := Tryd.isAgg131
 z168 := Tryd.sizeOf131
 v168 := Tryd.zeroValue131
 t171 := Tryd.underlying83
 a171 := Tryd.isAgg83
 z171 := Tryd.sizeOf83
 v171 := Tryd.zeroValue83
 t173 := Tryd.underlying123
 a173 := Tryd.isAgg123
 z173 := Tryd.sizeOf123
 v173 := Tryd.zeroValue123
 t175 := Tryd.underlying129
 a175 := Tryd.isAgg129
 z175 := Tryd.sizeOf129
 v175 := Tryd.zeroValue129
 t210 := Tryd.underlying143
 a210 := Tryd.isAgg143
 z210 := Tryd.sizeOf143
 v210 := Tryd.zeroValue143
 t212 := Tryd.underlying136
 a212 := Tryd.isAgg136
 z212 := Tryd.sizeOf136
 v212 := Tryd.zeroValue136
 t213 := Tryd.underlying137
 a213 := Tryd.isAgg137
 z213 := Tryd.sizeOf137
 t232 := Tryd.underlying149
 a232 := Tryd.isAgg149
 z232 := Tryd.sizeOf149
 v232 := Tryd.zeroValue149
 t233 := Tryd.underlying150
 a233 := Tryd.isAgg150
 z233 := Tryd.sizeOf150
 v233 := Tryd.zeroValue150
 g15 := by kernel_rfl
 g16 := by kernel_rfl
 g17 := by kernel_rfl
 g18 := by kernel_rfl
 g19 := by kernel_rfl
 t80 := Tryd.underlying62
 a80 := Tryd.isAgg62
 z80 := Tryd.sizeOf62
 v80 := Tryd.zeroValue62
 i0 := by kernel_rfl
 i2 := by kernel_rfl
 i3 := by kernel_rfl
 i4 := by kernel_rfl
 i5 := by kernel_rfl
 i9 := by kernel_rfl
 i20 := by kernel_rfl
 i21 := by kernel_rfl
 i37 := by kernel_rfl
 i46 := by kernel_rfl
 i51 := by kernel_rfl
 i53 := by kernel_rfl
 i75 := by kernel_rfl
 i76 := by kernel_rfl
 i80 := by kernel_rfl
 i85 := by kernel_rfl
 i127 := by kernel_rfl
 i143 := by kernel_rfl
 i145 := by kernel_rfl
 i167 := by kernel_rfl
 i168 := by kernel_rfl
 i171 := by kernel_rfl
 i173 := by kernel_rfl
 i175 := by kernel_rfl
 i210 := by kernel_rfl
 i212 := by kernel_rfl
 i232 := by kernel_rfl
 i233 := by kernel_rfl
 m15 := by kernel_rfl
 m16 := by kernel_rfl
 m17 := by kernel_rfl
 m18 := by kernel_rfl
 m19 := by kernel_rfl
 c0 := by kernel_rfl
 c2 := by kernel_rfl
 c3 := by kernel_rfl
 c4 := by kernel_rfl
 c5 := by kernel_rfl
 c9 := by kernel_rfl
 c20 := by kernel_rfl
 c21 := by kernel_rfl
 c37 := by kernel_rfl
 c46 := by kernel_rfl
 c51 := by kernel_rfl
 c53 := by kernel_rfl
 c75 := by kernel_rfl
 c76 := by kernel_rfl
 c80 := by kernel_rfl
 c85 := by kernel_rfl
 c127 := by kernel_rfl
 c143 := by kernel_rfl
 c145 := by kernel_rfl
 c167 := by kernel_rfl
 c168 := by kernel_rfl
 c171 := by kernel_rfl
 c173 := by kernel_rfl
 c175 := by kernel_rfl
 c210 := by kernel_rfl
 c212 := by kernel_rfl
 c213 := by kernel_rfl
 c232 := by kernel_rfl
 c233 := by kernel_rfl }
open Go.RowKit in
theorem Tryd.strconv_Atoi_ok (s : ByteArray) (hmax : s.size ≤ 9223372036854775806) (v : Int) (h : Lib.atoiAll s.data.toList = .ok v) (w : World) :
  Calls Tryd.prog 80 #[.string s] w fun e w' => e = .returned (.tuple #[.int .i64 v, .nilIface]) ∧ (w' = w ∨ ∃ t, w' = Lib.bytesWorld w 5 t) := Any.strconv_Atoi_ok Tryd.laysC172 s hmax v h w
open Go.RowKit in
theorem Tryd.strconv_Atoi_syntax_var (s : ByteArray) (hlim : s.size ≤ 281474976710656) (h : Lib.atoiAll s.data.toList = Lib.atoiAll []) (tp : TypeId) (p : Value) (w : World) (hvar : w.var? Tryd.prog "strconv.ErrSyntax" = some #[.iface tp p]) :
  Calls Tryd.prog 80 #[.string s] w fun e w' => ∃ N, e = .returned (.tuple #[.int .i64 0, .iface 131 (.pointer (some ⟨N, 0, none⟩))]) ∧ w.heap.size ≤ N ∧ w'.heap[N]? = some (.cells #[.string ⟨#[65, 116, 111, 105]⟩, .string s, .iface tp p] 143 (0, 0)) ∧ Below w.heap.size w w' := Any.strconv_Atoi_syntax_var Tryd.laysC172 s hlim (h.trans (by kernel_rfl)) tp p w hvar
open Go.RowKit in
theorem Tryd.strconv_Atoi_range_var (s : ByteArray) (hlim : s.size ≤ 281474976710656) (h : Lib.atoiAll s.data.toList = .range) (tp : TypeId) (p : Value) (w : World) (hvar : w.var? Tryd.prog "strconv.ErrRange" = some #[.iface tp p]) :
  Calls Tryd.prog 80 #[.string s] w fun e w' => ∃ N, e = .returned (.tuple #[.int .i64 (Lib.atoiSat s.data.toList), .iface 131 (.pointer (some ⟨N, 0, none⟩))]) ∧ w.heap.size ≤ N ∧ w'.heap[N]? = some (.cells #[.string ⟨#[65, 116, 111, 105]⟩, .string s, .iface tp p] 143 (0, 0)) ∧ Below w.heap.size w w' := Any.strconv_Atoi_range_var Tryd.laysC172 s hlim h tp p w hvar
def Tryd.laysC174_ren : Go.Shelf.Ren := ⟨fun | 174 => 70 | 247 => 78 | 245 => 79 | 287 => 87 | 279 => 88 | 280 => 89 | 281 => 90 | 282 => 91 | 321 => 98 | 322 => 99 | 316 => 100 | 171 => 102 | 205 => 101 | 243 => 105 | 246 => 106 | 283 => 81 | 284 => 82 | 285 => 83 | 286 => 84 | 129 => 94 | 317 => 93 | 318 => 95 | 319 => 96 | 320 => 97 | 337 => 103 | 338 => 104 | n => n, fun | 9 => 9 | 3 => 3 | 2 => 2 | 75 => 101 | 85 => 107 | 4 => 4 | 167 => 128 | 5 => 5 | 53 => 111 | 175 => 129 | 46 => 36 | 168 => 131 | 37 => 22 | 0 => 0 | 210 => 143 | 21 => 21 | 127 => 118 | 145 => 148 | 143 => 146 | 171 => 83 | 173 => 123 | 212 => 136 | 51 => 113 | 20 => 20 | 213 => 137 | 232 => 149 | 233 => 150 | 80 => 62 | n => n, fun | 15 => 2 | 16 => 3 | 17 => 0 | 18 => 4 | 19 => 5 | n => n⟩
theorem Tryd.laysC174 : Go.Proofs.LaysC.n174 Tryd.prog Tryd.laysC174_ren := {
 mixed := by kernel_rfl
 f129 := Tryd.func94.trans (congrArg some (by kernel_rfl))
 f171 := Tryd.func102.trans (congrArg some (by kernel_rfl))
 f174 := Tryd.func70.trans (congrArg some (by kernel_rfl))
 f205 := Tryd.func101.trans (congrArg some (by kernel_rfl))
 f243 := Tryd.func105.trans (congrArg some (by kernel_rfl))
 f245 := Tryd.func79.trans (congrArg some (by kernel_rfl))
 f246 := Tryd.func106.trans (congrArg some (by kernel_rfl))
 f247 := Tryd.func78.trans (congrArg some (by kernel_rfl))
 f279 := Tryd.func88.trans (congrArg some (by kernel_rfl))
 f280 := Tryd.func89.trans (congrArg some (by kernel_rfl))
 f281 := Tryd.func90.trans (congrArg some (by kernel_rfl))
 f282 := Tryd.func91.trans (congrArg some (by kernel_rfl))
 f283 := Tryd.func81.trans (congrArg some (by kernel_rfl))
 f284 := Tryd.func82.trans (congrArg some (by kernel_rfl))
 f285 := Tryd.func83.trans (congrArg some (by kernel_rfl))
 f286 := Tryd.func84.trans (congrArg some (by kernel_rfl))
 f287 := Tryd.func87.trans (congrArg some (by kernel_rfl))
 f316 := Tryd.func100.trans (congrArg some (by kernel_rfl))
 f317 := Tryd.func93.trans (congrArg some (by kernel_rfl))
 f318 := Tryd.func95.trans (congrArg some (by kernel_rfl))
 f319 := Tryd.func96.trans (congrArg some (by kernel_rfl))
 f320 := Tryd.func97.trans (congrArg some (by kernel_rfl))
 f321 := Tryd.func98.trans (congrArg some (by kernel_rfl))
 f322 := Tryd.func99.trans (congrArg some (by kernel_rfl))
 f337 := Tryd.func103.trans (congrArg some (by kernel_rfl))
 f338 := Tryd.func104.trans (congrArg some (by kernel_rfl))
 t0 := Tryd.underlying0
 a0 := Tryd.isAgg0
 z0 := Tryd.sizeOf0
 v0 := Tryd.zeroValue0
 t2 := Tryd.underlying2
 a2 := Tryd.isAgg2
 z2 := Tryd.sizeOf2
 v2 := Tryd.zeroValue2
 t3 := Tryd.underlying3
 a3 := Tryd.isAgg3
 z3 := Tryd.sizeOf3
 v3 := Tryd.zeroValue3
 t4 := Tryd.underlying4
 a4 := Tryd.isAgg4
 z4 := Tryd.sizeOf4
 v4 := Tryd.zeroValue4
 t5 := Tryd.underlying5
 a5 := Tryd.isAgg5
 z5 := Tryd.sizeOf5
 v5 := Tryd.zeroValue5
 t9 := Tryd.underlying9
 a9 := Tryd.isAgg9
 z9 := Tryd.sizeOf9
 v9 := Tryd.zeroValue9
 t20 := Tryd.underlying20
 a20 := Tryd.isAgg20
 z20 := Tryd.sizeOf20
 v20 := Tryd.zeroValue20
 t21 := Tryd.underlying21
 a21 := Tryd.isAgg21
 z21 := Tryd.sizeOf21
 v21 := Tryd.zeroValue21
 t37 := Tryd.underlying22
 a37 := Tryd.isAgg22
 z37 := Tryd.sizeOf22
 v37 := Tryd.zeroValue22
 t46 := Tryd.underlying36
 a46 := Tryd.isAgg36
 z46 := Tryd.sizeOf36
 v46 := Tryd.zeroValue36
 t51 := Tryd.underlying113
 a51 := Tryd.isAgg113
 z51 := Tryd.sizeOf113
 v51 := Tryd.zeroValue113
 t53 := Tryd.underlying111
 a53 := Tryd.isAgg111
 z53 := Tryd.sizeOf111
 v53 := Tryd.zeroValue111
 t75 := Tryd.underlying101
 a75 := Tryd.isAgg101
 z75 := Tryd.sizeOf101
 v75 := Tryd.zeroValue101
 t85 := Tryd.underlying107
 a85 := Tryd.isAgg107
 z85 := Tryd.sizeOf107
 v85 := Tryd.zeroValue107
 t127 := Tryd.underlying118
 a127 := Tryd.isAgg118
 z127 := Tryd.sizeOf118
 v127 := Tryd.zeroValue118
 t143 := Tryd.underlying146
 a143 := Tryd.isAgg146
 z143 := Tryd.sizeOf146
 v143 := Tryd.zeroValue146
 t145 := Tryd.underlying148
 a145 := Tryd.isAgg148
 z145 := Tryd.sizeOf148
 v145 := Tryd.zeroValue148
 t167 := Tryd.underlying128
 a167 := Tryd.isAgg128
 z167 := Tryd.sizeOf128
 v167 := Tryd.zeroValue128
 t168 := Tryd.underlying131
 a168 := Tryd.isAgg131
 z168 := Tryd.sizeOf131
 v168 := Tryd.zeroValue131
 t171 := Tryd.underlying83
 a171 := Tryd.isAgg83
 z171 := Tryd.sizeOf83
 v171 := Tryd.zeroValue83
 t173 := Tryd.underlying123
 a173 := Tryd.isAgg123
 z173 := Tryd.sizeOf123
 v173 := Tryd.zeroValue123
 t175 := Tryd.underlying129
 a175 := Tryd.isAgg129
 z175 := Tryd.sizeOf129
 v175 := Tryd.zeroValue129
 t210 := Tryd.underlying143
 a210 := Tryd.isAgg143
 z210 := Tryd.sizeOf143
 v210 := Tryd.zeroValue143
 t212 := Tryd.underlying136
 a212 := Tryd.isAgg136
 z212 := Tryd.sizeOf136
 v212 := Tryd.zeroValue136
 t213 := Tryd.underlying137
 a213 := Tryd.isAgg137
 z213 := Tryd.sizeOf137
 t232 := Tryd.underlying149
 a232 := Tryd.isAgg149
 z232 := Tryd.sizeOf149
 v232 := Tryd.zeroValue149
 t233 := Tryd.underlying150
 a233 := Tryd.isAgg150
 z233 := Tryd.sizeOf150
 v233 := Tryd.zeroValue150
 g15 := by kernel_rfl
 g16 := by kernel_rfl
 g17 := by kernel_rfl
 g18 := by kernel_rfl
 g19 := by kernel_rfl
 t80 := Tryd.underlying62
 a80 := Tryd.isAgg62
 z80 := Tryd.sizeOf62
 v80 := Tryd.zeroValue62
 i0 := by kernel_rfl
 i2 := by kernel_rfl
 i3 := by kernel_rfl
 i4 := by kernel_rfl
 i5 := by kernel_rfl
 i9 := by kernel_rfl
 i20 := by kernel_rfl
 i21 := by kernel_rfl
 i37 := by kernel_rfl
 i46 := by kernel_rfl
 i51 := by kernel_rfl
 i53 := by kernel_rfl
 i75 := by kernel_rfl
 i80 := by kernel_rfl
 i85 := by kernel_rfl
 i127 := by kernel_rfl
 i143 := by kernel_rfl
 i145 := by kernel_rfl
 i167 := by kernel_rfl
 i168 := by kernel_rfl
 i171 := by kernel_rfl
 i173 := by kernel_rfl
 i175 := by kernel_rfl
 i210 := by kernel_rfl
 i212 := by kernel_rfl
 i232 := by kernel_rfl
 i233 := by kernel_rfl
 m15 := by kernel_rfl
 m16 := by kernel_rfl
 m17 := by kernel_rfl
 m18 := by kernel_rfl
 m19 := by kernel_rfl
 c0 := by kernel_rfl
 c2 := by kernel_rfl
 c3 := by kernel_rfl
 c4 := by kernel_rfl
 c5 := by kernel_rfl
 c9 := by kernel_rfl
 c20 := by kernel_rfl
 c21 := by kernel_rfl
 c37 := by kernel_rfl
 c46 := by kernel_rfl
 c51 := by kernel_rfl
 c53 := by kernel_rfl
 c75 := by kernel_rfl
 c80 := by kernel_rfl
 c85 := by kernel_rfl
 c127 := by kernel_rfl
 c143 := by kernel_rfl
 c145 := by kernel_rfl
 c167 := by kernel_rfl
 c168 := by kernel_rfl
 c171 := by kernel_rfl
 c173 := by kernel_rfl
 c175 := by kernel_rfl
 c210 := by kernel_rfl
 c212 := by kernel_rfl
 c213 := by kernel_rfl
 c232 := by kernel_rfl
 c233 := by kernel_rfl }
open Go.RowKit in
theorem Tryd.strconv_ParseInt_10_at64_ok (s : ByteArray) (hmax : s.size ≤ 9223372036854775806) (v : Int) (h : Lib.parseIntB 64 s.data.toList = .ok v) (w : World) :
  Calls Tryd.prog 70 #[.string s, .int .i64 10, .int .i64 64] w fun e w' => e = .returned (.tuple #[.int .i64 v, .nilIface]) ∧ (w' = w ∨ ∃ t, w' = Lib.bytesWorld w 5 t) := Any.strconv_ParseInt_10_at64_ok Tryd.laysC174 s hmax v h w
open Go.RowKit in
theorem Tryd.strconv_ParseInt_10_at64_syntax_var (s : ByteArray) (hlim : s.size ≤ 281474976710656) (h : Lib.parseIntB 64 s.data.toList = Lib.parseIntB 64 []) (tp : TypeId) (p : Value) (w : World) (hvar : w.var? Tryd.prog "strconv.ErrSyntax" = some #[.iface tp p]) :
  Calls Tryd.prog 70 #[.string s, .int .i64 10, .int .i64 64] w fun e w' => ∃ N, e = .returned (.tuple #[.int .i64 (0), .iface 131 (.pointer (some ⟨N, 0, none⟩))]) ∧ w.heap.size ≤ N ∧ w'.heap[N]? = some (.cells #[.string ⟨#[80, 97, 114, 115, 101, 73, 110, 116]⟩, .string s, .iface tp p] 143 (0, 0)) ∧ Below w.heap.size w w' := Any.strconv_ParseInt_10_at64_syntax_var Tryd.laysC174 s hlim (h.trans (by kernel_rfl)) tp p w hvar
open Go.RowKit in
theorem Tryd.strconv_ParseInt_10_at64_range_var (s : ByteArray) (hlim : s.size ≤ 281474976710656) (h : Lib.parseIntB 64 s.data.toList = .range) (tp : TypeId) (p : Value) (w : World) (hvar : w.var? Tryd.prog "strconv.ErrRange" = some #[.iface tp p]) :
  Calls Tryd.prog 70 #[.string s, .int .i64 10, .int .i64 64] w fun e w' => ∃ N, e = .returned (.tuple #[.int .i64 (Lib.intSat 64 s.data.toList), .iface 131 (.pointer (some ⟨N, 0, none⟩))]) ∧ w.heap.size ≤ N ∧ w'.heap[N]? = some (.cells #[.string ⟨#[80, 97, 114, 115, 101, 73, 110, 116]⟩, .string s, .iface tp p] 143 (0, 0)) ∧ Below w.heap.size w w' := Any.strconv_ParseInt_10_at64_range_var Tryd.laysC174 s hlim h tp p w hvar
def Tryd.lays99_ren : Go.Shelf.Ren := ⟨fun | 99 => 63 | 206 => 75 | n => n, fun | 9 => 9 | 4 => 4 | 3 => 3 | n => n, fun | n => n⟩
theorem Tryd.lays99 : Go.Proofs.Lays.n99 Tryd.prog Tryd.lays99_ren := {
 mixed := by kernel_rfl
 f99 := Tryd.func63.trans (congrArg some (by kernel_rfl))
 f206 := Tryd.func75.trans (congrArg some (by kernel_rfl))
 t3 := Tryd.underlying3
 a3 := Tryd.isAgg3
 z3 := Tryd.sizeOf3
 v3 := Tryd.zeroValue3
 t4 := Tryd.underlying4
 a4 := Tryd.isAgg4
 z4 := Tryd.sizeOf4
 v4 := Tryd.zeroValue4
 t9 := Tryd.underlying9
 a9 := Tryd.isAgg9
 z9 := Tryd.sizeOf9
 v9 := Tryd.zeroValue9 }
open Go.RowKit Go.Lib in
theorem Tryd.strings_HasPrefix (s p : ByteArray) (w : World) :
  Calls Tryd.prog 63 #[.string s, .string p] w fun e w' => e = .returned (.bool (Lib.hasPrefix s.data.toList p.data.toList)) ∧ w' = w := Any.strings_HasPrefix Tryd.lays99 s p w
def Tryd.lays105_ren : Go.Shelf.Ren := ⟨fun | 105 => 55 | 212 => 62 | 99 => 63 | 165 => 64 | 166 => 65 | 170 => 66 | 169 => 67 | 263 => 73 | 264 => 74 | 206 => 75 | 240 => 76 | 241 => 77 | 276 => 85 | 277 => 86 | n => n, fun | 9 => 9 | 3 => 3 | 4 => 4 | 20 => 20 | 0 => 0 | 46 => 36 | 109 => 94 | 5 => 5 | 72 => 99 | 76 => 102 | 51 => 113 | 146 => 114 | 53 => 111 | 148 => 116 | 70 => 97 | 37 => 22 | 75 => 101 | 127 => 118 | 164 => 125 | 80 => 62 | n => n, fun | n => n⟩
theorem Tryd.lays105 : Go.Proofs.Lays.n105 Tryd.prog Tryd.lays105_ren := {
 mixed := by kernel_rfl
 f99 := Tryd.func63.trans (congrArg some (by kernel_rfl))
 f105 := Tryd.func55.trans (congrArg some (by kernel_rfl))
 f165 := Tryd.func64.trans (congrArg some (by kernel_rfl))
 f166 := Tryd.func65.trans (congrArg some (by kernel_rfl))
 f169 := Tryd.func67.trans (congrArg some (by kernel_rfl))
 f170 := Tryd.func66.trans (congrArg some (by kernel_rfl))
 f206 := Tryd.func75.trans (congrArg some (by kernel_rfl))
 f212 := Tryd.func62.trans (congrArg some (by kernel_rfl))
 f240 := Tryd.func76.trans (congrArg some (by kernel_rfl))
 f241 := Tryd.func77.trans (congrArg some (by kernel_rfl))
 f263 := Tryd.func73.trans (congrArg some (by kernel_rfl))
 f264 := Tryd.func74.trans (congrArg some (by kernel_rfl))
 f276 := Tryd.func85.trans (congrArg some (by kernel_rfl))
 f277 := Tryd.func86.trans (congrArg some (by kernel_rfl))
 t0 := Tryd.underlying0
 a0 := Tryd.isAgg0
 z0 := Tryd.sizeOf0
 v0 := Tryd.zeroValue0
 t3 := Tryd.underlying3
 a3 := Tryd.isAgg3
 z3 := Tryd.sizeOf3
 v3 := Tryd.zeroValue3
 t4 := Tryd.underlying4
 a4 := Tryd.isAgg4
 z4 := Tryd.sizeOf4
 v4 := Tryd.zeroValue4
 t5 := Tryd.underlying5
 a5 := Tryd.isAgg5
 z5 := Tryd.sizeOf5
 v5 := Tryd.zeroValue5
 t9 := Tryd.underlying9
 a9 := Tryd.isAgg9
 z9 := Tryd.sizeOf9
 v9 := Tryd.zeroValue9
 t20 := Tryd.underlying20
 a20 := Tryd.isAgg20
 z20 := Tryd.sizeOf20
 v20 := Tryd.zeroValue20
 t37 := Tryd.underlying22
 a37 := Tryd.isAgg22
 z37 := Tryd.sizeOf22
 v37 := Tryd.zeroValue22
 t46 := Tryd.underlying36
 a46 := Tryd.isAgg36
 z46 := Tryd.sizeOf36
 v46 := Tryd.zeroValue36
 t51 := Tryd.underlying113
 a51 := Tryd.isAgg113
 z51 := Tryd.sizeOf113
 v51 := Tryd.zeroValue113
 t53 := Tryd.underlying111
 a53 := Tryd.isAgg111
 z53 := Tryd.sizeOf111
 v53 := Tryd.zeroValue111
 t70 := Tryd.underlying97
 a70 := Tryd.isAgg97
 z70 := Tryd.sizeOf97
 v70 := Tryd.zeroValue97
 t72 := Tryd.underlying99
 a72 := Tryd.isAgg99
 z72 := Tryd.sizeOf99
 v72 := Tryd.zeroValue99
 t75 := Tryd.underlying101
 a75 := Tryd.isAgg101
 z75 := Tryd.sizeOf101
 v75 := Tryd.zeroValue101
 t76 := Tryd.underlying102
 a76 := Tryd.isAgg102
 z76 := Tryd.sizeOf102
 v76 := Tryd.zeroValue102
 t109 := Tryd.underlying94
 a109 := Tryd.isAgg94
 z109 := Tryd.sizeOf94
 v109 := Tryd.zeroValue94
 t127 := Tryd.underlying118
 a127 := Tryd.isAgg118
 z127 := Tryd.sizeOf118
 v127 := Tryd.zeroValue118
 t146 := Tryd.underlying114
 a146 := Tryd.isAgg114
 z146 := Tryd.sizeOf114
 v146 := Tryd.zeroValue114
 t148 := Tryd.underlying116
 a148 := Tryd.isAgg116
 z148 := Tryd.sizeOf116
 v148 := Tryd.zeroValue116
 t164 := Tryd.underlying125
 a164 := Tryd.isAgg125
 z164 := Tryd.sizeOf125
 v164 := Tryd.zeroValue125 }
theorem Tryd.Builder_Extra_105 : Builder.Extra Tryd.prog Tryd.lays105_ren := {
 sizeBuilder := by kernel_rfl
 liesBuilder := by kernel_rfl
 t5 := Tryd.underlying5
 a5 := Tryd.isAgg5
 z5 := Tryd.sizeOf5
 v5 := Tryd.zeroValue5
 infoByte := by kernel_rfl
 cellsByte := by kernel_rfl
 sizeByte := by kernel_rfl
 neB5 := by decide }
open Go.RowKit Go.Lib in
theorem Tryd.strings_Repeat (s : ByteArray) (c : Nat) (w : World) (hc : c ≤ 9223372036854775807) (hlen : s.size * c ≤ 140737488355328) :
  Calls Tryd.prog 55 #[.string s, .int .i64 c] w fun e w' => e = .returned (.string ⟨(Lib.repeatL s.data.toList c).toArray⟩) ∧ Below w.heap.size w w' := Any.strings_Repeat Tryd.lays105 Tryd.Builder_Extra_105 s c w hc hlen
end Go.Proofs

end
section
namespace Go.Proofs.YtfpopmojlmpopaaDoor.H
open Go.RowKit Go.Proofs.YtfpopmojlmpopaaDoorW.PrintWords Go.Proofs.YtfpopmojlmpopaaDoorW.PrintLast Go.Proofs.YtfpopmojlmpopaaDoorW.PrintMore
set_option linter.unusedVariables false
theorem info5 : (Tryd.prog.info? 5).map (fun i => (i.zero, i.size, i.bytes)) = some (some (.int .u8 0), 1, 1) := by kernel_rfl
section
variable {P : Program}
theorem run_append_arr_string (w : World) (t u ty e T : TypeId) (i : TypeInfo) (ht : P.underlying t = some (.slice e)) (hu : P.underlying u = some .string) (hi : P.info? e = some i) (hs1 : i.size = 1)
  (D cap : Nat) (cur : Array Value) (hg : w.heap[D]? = some (.cells cur T (0, 0))) (s : ByteArray) (hroom : s.size ≤ cap) (hfit : s.size ≤ cur.size) :
  (Builtin.append_ #[t, u] ty #[.slice (some ⟨D, 0, none⟩) 0 cap, .string s]).run P w = .ok (.slice (some ⟨D, 0, none⟩) s.size cap) (w.setRow D (Lib.strCells s ++ cur.toList.drop s.size).toArray) := by
 have h1 := Lib.run_firstCells_string (P := P) w 1 s
 have h2 := run_storeCells_at P D 0 T (Lib.strCells s) 0 cur w hg (by simpa [Lib.strCells_length] using hfit) (Lib.strCells_oneCell s)
 simp only [Nat.add_zero, Lib.strCells_length] at h2
 simp [Builtin.append_, run_underlying ht, run_underlying hu, sizeOf, typeInfo, hi, hs1, Builtin.lenOf, hroom, h1, Addr.add_lit, h2]
theorem wpList_append_arr_string {ops : Array Oper} {rest : List Oper} {o : Oper} {a : Act} {w : World} {Q : Exit → Act → World → Prop} (hgd : o.guard = none) (sl x : Operand) (t u : TypeId)
  (ho : o.op = .call { callee := .builtin .append, args := #[sl, x], argTypes := #[t, u] })
  (e T : TypeId) (i : TypeInfo) (ht : P.underlying t = some (.slice e)) (hu : P.underlying u = some .string) (hi : P.info? e = some i) (hs1 : i.size = 1)
  (D cap : Nat) (cur : Array Value) (hs : a.eval sl = .slice (some ⟨D, 0, none⟩) 0 cap) (hg : w.heap[D]? = some (.cells cur T (0, 0))) (s : ByteArray) (hx : a.eval x = .string s) (hroom : s.size ≤ cap) (hfit : s.size ≤ cur.size)
  (h : wpList P ops Q rest (a.put o.dst (.slice (some ⟨D, 0, none⟩) s.size cap)) (w.setRow D (Lib.strCells s ++ cur.toList.drop s.size).toArray)) : wpList P ops Q (o :: rest) a w := by
 refine wpList_plain hgd fun K hK => ?_
 have hr := run_append_arr_string (P := P) w t u o.type e T i ht hu hi hs1 D cap cur hg s hroom hfit
 unfold Oper.wp execOp
 simp only [ho, resolve, invoke, builtin, Sem.run_bind, Sem.run_pure, Result.andThen_ok, List.map_toArray, List.map_cons, List.map_nil, hs, hx, hr]
 exact hK _ _ h
end
def AtHead (D : Nat) (l : List UInt8) (w w' : World) : Prop := (∀ j u, (Lib.byteCells l)[j]? = some u → w'.cell? ⟨D, j, none⟩ = some u) ∧ w.grownBy w' (some D)
theorem setRow_grownBy (w : World) (D : Nat) (cs : Array Value) : w.grownBy (w.setRow D cs) (some D) :=
 ⟨rfl, rfl, rfl, by simp, fun k hk hne => setRow_other w D k cs (fun e => hne (by rw [e]))⟩
theorem decDigits_len20 (u : Nat) (hu : u < 18446744073709551616) : (Lib.decDigits u).length ≤ 20 := by
 rw [Lib.decDigits_length]
 by_cases h10 : u < 10
 ·rw [Lib.nDigits_small h10]; omega
 ·have := Lib.numDigits_eq u (by omega) hu; split at this <;> omega
theorem setCells_grownBy (D : Nat) (vs : List Value) (o : Nat) (w : World) : w.grownBy (w.setCells D o vs) (some D) := by
 induction vs generalizing o w with
 | nil => exact ⟨rfl, rfl, rfl, Nat.le_refl _, fun _ _ _ => rfl⟩
 | cons v vs ih =>
  have h := ih (o + 1) (w.setCell ⟨D, o, none⟩ v)
  refine ⟨h.os, h.tape, h.output, Nat.le_trans (by simp [World.setCell]) h.size, fun k hk hne => ?_⟩
  exact (h.block k (by simpa [World.setCell] using hk) hne).trans (Below.heap_setCell w ⟨D, o, none⟩ v k (fun e => hne (by rw [e])))
theorem _root_.Go.World.grownBy.trans_ {a b c : World} {row : Option Nat} (h : a.grownBy b row) (k : b.grownBy c row) : a.grownBy c row :=
 ⟨k.os.trans h.os, k.tape.trans h.tape, k.output.trans h.output, Nat.le_trans h.size k.size, fun i hi hne => (k.block i (Nat.lt_of_lt_of_le hi h.size) hne).trans (h.block i hi hne)⟩
theorem head_cells (l : List UInt8) (rest : List Value) (j : Nat) (v : Value) (h : (Lib.byteCells l)[j]? = some v) : (Lib.strCells ⟨l.toArray⟩ ++ rest).toArray[j]? = some v := by
 have e : Lib.strCells ⟨l.toArray⟩ = Lib.byteCells l := rfl
 have hj := (List.getElem?_eq_some_iff.1 h).1
 rw [e, List.getElem?_toArray, List.getElem?_append_left hj]
 exact h
set_option maxHeartbeats 1000000 in
set_option maxRecDepth 100000 in
theorem AppendUint_small (D : Nat) (u : Nat) (hu : u < 100) (w : World) (cur : Array Value) (hg : w.heap[D]? = some (.cells cur 83 (0, 0))) (hc : cur.size = 24) :
  Calls Tryd.prog 72 #[.slice (some ⟨D, 0, none⟩) 0 24, .int .u64 u, .int .i64 10] w fun e w' => e = .returned (.slice (some ⟨D, 0, none⟩) (Lib.decDigits u).length 24) ∧ AtHead D (Lib.decDigits u) w w' := by
 obtain ⟨i0, hi, hz0, hz1, hz2⟩ := info_parts info5
 have hl := decDigits_len20 u (by omega)
 have hsz : (⟨(Lib.decDigits u).toArray⟩ : ByteArray).size = (Lib.decDigits u).length := by simp [ByteArray.size]
 have HG := Lib.hid hg
 have HSZ := Lib.hid hsz
 clear hg hsz
 go_enter Tryd.func72, Tryd.ntmps72
 go_wp2_with (first
  | (go_at_call 81; refine (Tryd.internal_strconv_small u hu _).mono ?_; rintro e w' ⟨rfl, rfl⟩)
  | (at_builtin; refine wpList_append_arr_string rfl _ _ 22 9 rfl 5 83 i0 Tryd.underlying22 Tryd.underlying9 hi hz1 D 24 cur rfl HG.out ⟨(Lib.decDigits u).toArray⟩ rfl (by rw [HSZ.out]; omega) (by rw [HSZ.out]; omega) ?_))
 go_ret
 refine ⟨by rw [← HSZ.out]; rfl, ?_, setRow_grownBy _ _ _⟩
 intro j v hj
 rw [cell_of_row _ _ _ _ _ _ (setRow_heap _ D cur _ _ _ HG.out)]
 exact head_cells _ _ _ _ hj
set_option maxHeartbeats 4000000 in
set_option maxRecDepth 100000 in
theorem AppendUint_big (D : Nat) (u : Nat) (hu : 100 ≤ u) (hu64 : u < 18446744073709551616) (w : World) (cur : Array Value) (hg : w.heap[D]? = some (.cells cur 83 (0, 0))) (hc : cur.size = 24)
  (htab : Lib.TabIs Tryd.prog w "internal/strconv.uint64pow10" .u64 Lib.pow10Tab) :
  Calls Tryd.prog 72 #[.slice (some ⟨D, 0, none⟩) 0 24, .int .u64 u, .int .i64 10] w fun e w' => e = .returned (.slice (some ⟨D, 0, none⟩) (Lib.decDigits u).length 24) ∧ AtHead D (Lib.decDigits u) w w' := by
 obtain ⟨i0, hi, hz0, hz1, hz2⟩ := info_parts info5
 have hl := decDigits_len20 u hu64
 have hDl : D < w.heap.size := blk_lt hg
 have hu1 : 1 ≤ u := by omega
 have hnd20 : Lib.nDigits u ≤ 20 := by rw [← Lib.decDigits_length]; exact hl
 have hal : Tryd.prog.arrayLen 83 = 24 := by simp [Program.arrayLen, Tryd.underlying83]
 have hsl : ∀ W, (Instr.sliceAt 83 (.pointer (some ⟨w.heap.size, 0, none⟩)) none (some (.int .i64 (Lib.nDigits u : Int))) none).run Tryd.prog W = .ok (.slice (some ⟨w.heap.size, 0, none⟩) (Lib.nDigits u) 24) W := fun W => by
  rw [run_sliceAt_array_h W 83 ⟨w.heap.size, 0, none⟩ (by simp [Program.arrayLen, Program.elem, Tryd.underlying83]) .i64 (Lib.nDigits u : Int) (by omega) (by rw [hal]; omega)]
  go_simp
 have hH0 := Lib.holds_zero0 w 83 (Lib.nDigits u) (by omega)
 have hfmt := Tryd.internal_strconv_formatBase10 w.heap.size 0 24 u (Array.replicate (Lib.nDigits u) 0) (w.alloc (.cells Lib.zeros24 83)) hH0 (by rw [Array.size_replicate]; exact Lib.lt_pow_nDigits u) hu64 (by rw [Array.size_replicate]; omega)
 rw [Array.size_replicate] at hfmt
 have HH0 := Lib.hid hH0
 have HG := Lib.hid hg
 have iu : (100 : Int) ≤ (u : Int) := by omega
 clear hH0 hal hg
 go_enter Tryd.func72, Tryd.ntmps72
 go_wp2_with (first
  | (go_at_call 82; refine (Tryd.internal_strconv_numDigits u hu1 hu64 _ (Lib.tabIs_alloc htab _)).mono ?_; rintro e w' ⟨rfl, rfl⟩))
 refine hfmt.mono ?_
 rintro e w' ⟨rfl, k, v', dk, rfl, hF⟩
 have hcells : ∀ j u', (Lib.byteCells (Lib.decDigits u))[j]? = some u' → ((Go.Sort.putRow (fun (b : UInt8) => Value.int .u8 (b.toNat : Int)) (w.alloc (.cells Lib.zeros24 83)) w.heap.size 0 dk).drewN k).cell? ((⟨w.heap.size, 0, none⟩ : Addr).add j) = some u' := by
  intro j u' hj
  have hjl : j < (Lib.decDigits u).length := by
   have h5 := (List.getElem?_eq_some_iff.1 hj).1
   rwa [Lib.byteCells_length] at h5
  have e5 : (Lib.byteCells (Lib.decDigits u))[j]? = some (Value.int .u8 ((Lib.decDigits u)[j].toNat : Int)) := by simp [Lib.byteCells, hjl]
  rw [e5] at hj
  cases hj
  rw [Lib.row_is_numeral hF j hjl, Lib.add_plain, World.cell?_drewN]
  exact Go.Sort.cell?_putRow (fun (b : UInt8) => Value.int .u8 (b.toNat : Int)) _ w.heap.size 0 _ dk HH0.out (by rw [hF.size, Array.size_replicate]) j (by rw [hF.size]; rw [Lib.decDigits_length] at hjl; exact hjl)
 obtain ⟨os, eo⟩ := Lib.fin_at w (.cells Lib.zeros24 83) dk k 0
 have hbel : Below w.heap.size w ((Go.Sort.putRow (fun (b : UInt8) => Value.int .u8 (b.toNat : Int)) (w.alloc (.cells Lib.zeros24 83)) w.heap.size 0 dk).drewN k) := by rw [eo]; exact Lib.below_grow _ w (Nat.le_refl _) k os
 generalize (Go.Sort.putRow (fun (b : UInt8) => Value.int .u8 (b.toNat : Int)) (w.alloc (.cells Lib.zeros24 83)) w.heap.size 0 dk).drewN k = W2 at hcells hbel ⊢
 clear eo HH0 hfmt
 have hg2 : W2.heap[D]? = some (.cells cur 83 (0, 0)) := (hbel.block D hDl).trans HG.out
 have HG2 := Lib.hid hg2
 clear hg2
 go_wp2_with (at_builtin; refine wpList_append_arg _ rfl _ _ 22 rfl 5 i0 (.int .u8 0) 1 1 Tryd.underlying22 hi hz0 hz1 hz2 rfl (by decide) D 0 0 24 [] rfl rfl (by intro j u h; simp at h) ⟨w.heap.size, 0, none⟩ (Lib.nDigits u) 24 (Lib.byteCells (Lib.decDigits u)) rfl ?c0 hcells ?c2 ?c3 ?c4 ?c5 ?_ ?c6)
 case c0 => rw [Lib.byteCells_length, Lib.decDigits_length, Nat.mul_one]
 case c2 => intro u' hu'; simp only [Lib.byteCells, List.mem_map] at hu'; obtain ⟨b, _, rfl⟩ := hu'; rfl
 case c3 =>
  intro _ j hj
  rw [Lib.byteCells_length] at hj
  rw [cell_of_row _ _ _ _ _ _ HG2.out, frozen_of_row _ _ _ _ _ HG2.out]
  exact ⟨by simp; omega, rfl⟩
 case c4 => unfold maxLen; omega
 case c5 => omega
 case c6 => intro h; omega
 intro _
 go_wp2
 go_ret
 refine ⟨by rw [Lib.decDigits_length]; rfl, ?_, (grown_of_below hbel (some D)).trans_ (setCells_grownBy D _ _ _)⟩
 intro j x hj
 have hj2 := (List.getElem?_eq_some_iff.1 hj).1
 have h := World.cell?_setCells_in D (Lib.byteCells (Lib.decDigits u)) 0 W2 (fun j hj => by rw [Lib.byteCells_length] at hj; rw [cell_of_row _ _ _ _ _ _ HG2.out]; simp; omega) j hj2
 rw [Nat.zero_add] at h
 rw [List.getElem?_eq_getElem hj2] at hj
 rw [← hj]
 exact h
theorem AppendInt_arr (D : Nat) (i : Int) (h0 : 0 ≤ i) (h1 : i ≤ 9223372036854775807) (w : World) (cur : Array Value) (hg : w.heap[D]? = some (.cells cur 83 (0, 0))) (hc : cur.size = 24)
  (htab : 100 ≤ i → Lib.TabIs Tryd.prog w "internal/strconv.uint64pow10" .u64 Lib.pow10Tab) :
  Calls Tryd.prog 53 #[.slice (some ⟨D, 0, none⟩) 0 24, .int .i64 i, .int .i64 10] w fun e w' => e = .returned (.slice (some ⟨D, 0, none⟩) (Lib.itoa i).length 24) ∧ AtHead D (Lib.itoa i) w w' := by
 obtain ⟨u, rfl⟩ : ∃ u : Nat, i = u := ⟨i.toNat, by omega⟩
 have hu64 : u < 18446744073709551616 := by omega
 have hU : Calls Tryd.prog 72 #[.slice (some ⟨D, 0, none⟩) 0 24, .int .u64 u, .int .i64 10] w fun e w' => e = .returned (.slice (some ⟨D, 0, none⟩) (Lib.decDigits u).length 24) ∧ AtHead D (Lib.decDigits u) w w' := by
  by_cases h : u < 100
  ·exact AppendUint_small D u h w cur hg hc
  ·exact AppendUint_big D u (by omega) hu64 w cur hg hc (htab (by omega))
 rw [Lib.itoa_nonneg]
 have HU := Lib.hid hU
 clear hU hg hc htab
 have hn : decide ((u : Int) < 0) = false := by simp
 go_enter Tryd.func53, Tryd.ntmps53
 go_wp2_with (first | (go_at_call 72; refine (HU.out).mono ?_; rintro e w' ⟨rfl, hw⟩) | go_in)
 go_ret
 exact ⟨rfl, hw⟩
end Go.Proofs.YtfpopmojlmpopaaDoor.H

end
section
namespace Go.Proofs.YtfpopmojlmpopaaDoor.H
open Go.RowKit Go.Proofs.YtfpopmojlmpopaaDoorW.PrintWords
def VarIs (w : World) (name : String) : Prop := ∃ tp p, w.var? Tryd.prog name = some #[.iface tp p]
structure Laid (w : World) : Prop where
 tab : Lib.TabIs Tryd.prog w "internal/strconv.uint64pow10" .u64 Lib.pow10Tab
 range : VarIs w "strconv.ErrRange"
 stx : VarIs w "strconv.ErrSyntax"
theorem var_below {w w' : World} (hb : Below w.heap.size w w') (name : String) {cs : Array Value} (h : w.var? Tryd.prog name = some cs) : w'.var? Tryd.prog name = some cs := by
 unfold World.var? at *
 cases hg : Tryd.prog.globalNamed name with
 | none => simp [hg] at h
 | some g =>
  simp only [hg, Option.bind_some] at h ⊢
  have hlt : g < w.heap.size := by
   rcases Nat.lt_or_ge g w.heap.size with h' | h'
   ·exact h'
   ·rw [Array.getElem?_eq_none h'] at h; simp at h
  rw [hb.block g hlt]
  exact h
theorem Laid.below {w w' : World} (h : Laid w) (hb : Below w.heap.size w w') : Laid w' :=
 ⟨Lib.tabBelow_of_tabIs h.tab w' hb, by obtain ⟨tp, p, hv⟩ := h.range; exact ⟨tp, p, var_below hb _ hv⟩, by obtain ⟨tp, p, hv⟩ := h.stx; exact ⟨tp, p, var_below hb _ hv⟩⟩
theorem Laid.tabB {w : World} (h : Laid w) : Lib.TabBelow Tryd.prog w.heap.size w "internal/strconv.uint64pow10" .u64 Lib.pow10Tab := Lib.tabBelow_of_tabIs h.tab
end Go.Proofs.YtfpopmojlmpopaaDoor.H

end
section
namespace Go.Proofs.YtfpopmojlmpopaaDoor.G
open Go.RowKit Go.Proofs.YtfpopmojlmpopaaDoorW.PrintWords Go.Proofs.YtfpopmojlmpopaaDoorW.PrintLast Go.Proofs.YtfpopmojlmpopaaDoorW.PrintMore
attribute [local go_sem] max2_int min2_int max_two min_two max_three min_three max_four min_four
set_option linter.unusedVariables false
set_option linter.unusedSimpArgs false
def errW : Option Int → Value
 | none => .nilIface
 | some c => .iface 0 (.int .i64 c)
theorem errW_none : errW none = .nilIface := rfl
theorem errW_some (c : Int) : errW (some c) = .iface 0 (.int .i64 c) := rfl
theorem info5 : (Tryd.prog.info? 5).map (fun i => (i.zero, i.size, i.bytes)) = some (some (.int .u8 0), 1, 1) := by kernel_rfl
theorem info9 : (Tryd.prog.info? 9).map (fun i => (i.zero, i.size, i.bytes)) = some (some (.string ⟨#[]⟩), 1, 16) := by kernel_rfl
theorem info24 : (Tryd.prog.info? 24).map (fun i => (i.zero, i.size, i.bytes)) = some (some (.int .u16 0), 1, 2) := by kernel_rfl
theorem info52 : (Tryd.prog.info? 52).map (fun i => (i.zero, i.size, i.bytes)) = some (some (.agg #[(.int .i64 0), (.int .i64 0), (.slice none 0 0)]), 3, 40) := by kernel_rfl
theorem info77 : (Tryd.prog.info? 77).map (fun i => (i.zero, i.size, i.bytes)) = some (some (.slice none 0 0), 1, 24) := by kernel_rfl
structure S52 where
 f0 : Int
 f1 : Int
 f2 : (List ByteArray)
def z52 : S52 := ⟨(0 : Int), (0 : Int), ([] : List ByteArray)⟩
def k52 : Kd S52 := Kd.iso (Kd.pair (Kd.int .i64) (Kd.pair (Kd.int .i64) (Kd.slice 9 Kd.string))) (fun x : S52 => (x.f0, x.f1, x.f2))
theorem k52_open {w : World} {x : S52} {cs : List Value} (h : k52.K w x cs) : ∃ A2 c2, cs = [.int .i64 x.f0, .int .i64 x.f1, .slice A2 x.f2.length c2] ∧ x.f2.length ≤ c2 ∧ Kd.string.C w A2 x.f2.length x.f2 := by
 obtain ⟨_, _, rfl, rfl, ⟨_, _, rfl, rfl, ⟨A2, c2, rfl, l2, g2⟩⟩⟩ := h
 exact ⟨A2, c2, rfl, l2, g2⟩
theorem k52_openM {w : World} {base : Nat} {ok : Nat → Prop} {x : S52} {cs : List Value} (h : k52.M w base ok x cs) : ∃ v2, cs = [.int .i64 x.f0, .int .i64 x.f1, v2] ∧ Kd.string.R 9 w base ok v2 x.f2 := by
 obtain ⟨_, _, rfl, rfl, ⟨_, _, rfl, rfl, ⟨v2, rfl, g2⟩⟩⟩ := h
 exact ⟨v2, rfl, g2⟩
theorem k52_mk (w : World) (x : S52) {A2 : Option Addr} {c2 : Nat} (l2 : x.f2.length ≤ c2) (g2 : Kd.string.C w A2 x.f2.length x.f2) : k52.K w x [.int .i64 x.f0, .int .i64 x.f1, .slice A2 x.f2.length c2] := ⟨[.int .i64 x.f0], [.int .i64 x.f1, .slice A2 x.f2.length c2], rfl, rfl, ⟨[.int .i64 x.f1], [.slice A2 x.f2.length c2], rfl, rfl, ⟨A2, c2, rfl, l2, g2⟩⟩⟩
theorem k52_mkM (w : World) (base : Nat) (ok : Nat → Prop) (x : S52) {v2 : Value} (g2 : Kd.string.R 9 w base ok v2 x.f2) : k52.M w base ok x [.int .i64 x.f0, .int .i64 x.f1, v2] := ⟨[.int .i64 x.f0], [.int .i64 x.f1, v2], rfl, rfl, ⟨[.int .i64 x.f1], [v2], rfl, rfl, ⟨v2, rfl, g2⟩⟩⟩
def rd_T52 (xs : List S52) (i : Int) : S52 := xs.getD i.toNat z52
theorem at_T52 {w : World} {A : Option Addr} {n : Nat} {xs : List S52} (h : Kd.C k52 w A n xs) (i : Int) (h0 : 0 ≤ i) (h1 : i < n) : ∃ ad A2 c2, A = some ad ∧ w.cell? (ad.add (i.toNat * 3)) = some (.int .i64 (rd_T52 xs i).f0) ∧ w.cell? ⟨(ad.add (i.toNat * 3)).block, (ad.add (i.toNat * 3)).off + 1, none⟩ = some (.int .i64 (rd_T52 xs i).f1) ∧ w.cell? ⟨(ad.add (i.toNat * 3)).block, (ad.add (i.toNat * 3)).off + 2, none⟩ = some (.slice A2 (rd_T52 xs i).f2.length c2) ∧ (rd_T52 xs i).f2.length ≤ c2 ∧ Kd.string.C w A2 (rd_T52 xs i).f2.length (rd_T52 xs i).f2 := by
 obtain ⟨ad, c, e, _, hK, hc0⟩ := Kd.C_get h z52 i h0 h1
 have hc : ∀ j u, c[j]? = some u → w.cell? (ad.add (i.toNat * 3 + j)) = some u := hc0
 obtain ⟨A2, c2, rfl, l2, g2⟩ := k52_open hK
 exact ⟨ad, A2, c2, e, hc 0 _ rfl, by rw [← add_field _ _ 1 (by omega)]; exact hc 1 _ rfl, by rw [← add_field _ _ 2 (by omega)]; exact hc 2 _ rfl, l2, g2⟩
def rd_L6 (xs : List (List Int)) (i : Int) : (List Int) := xs.getD i.toNat ([] : List Int)
theorem at_L6 {w : World} {A : Option Addr} {n : Nat} {xs : List (List Int)} (h : Kd.C (Kd.slice 24 (Kd.int .u16)) w A n xs) (i : Int) (h0 : 0 ≤ i) (h1 : i < n) : ∃ ad A0 c0, A = some ad ∧ w.cell? (ad.add i.toNat) = some (.slice A0 (rd_L6 xs i).length c0) ∧ (rd_L6 xs i).length ≤ c0 ∧ (Kd.int .u16).C w A0 (rd_L6 xs i).length (rd_L6 xs i) := by
 obtain ⟨ad, c, e, _, hK, hc0⟩ := Kd.C_get h ([] : List Int) i h0 h1
 have hc : ∀ j u, c[j]? = some u → w.cell? (ad.add (i.toNat * 1 + j)) = some u := hc0
 obtain ⟨A0, c0, rfl, l0, g0⟩ := hK
 exact ⟨ad, A0, c0, e, by have hq := hc 0 _ rfl; rwa [Nat.mul_one, Nat.add_zero] at hq, l0, g0⟩
end Go.Proofs.YtfpopmojlmpopaaDoor.G

end
section
namespace Go.Proofs.YtfpopmojlmpopaaDoor.H
open Go.ChangeShapes Go.WideShapes Go.ChangeAt Go.RowKit Go.Proofs.YtfpopmojlmpopaaDoorW.PrintWords Go.Proofs.YtfpopmojlmpopaaDoorW.PrintLast Go.Proofs.YtfpopmojlmpopaaDoorW.PrintMore Go.Proofs.YtfpopmojlmpopaaDoor.G
open Go.ChangeMaps (open_string shut_string)
set_option linter.unusedVariables false
set_option linter.unusedSimpArgs false
def okInt (n : Int) : Prop := -9223372036854775808 ≤ n ∧ n ≤ 9223372036854775807
def okEdit (x : S52) : Prop := okInt x.f0 ∧ okInt x.f1
theorem wf_ok {n : Int} (h : (Lit.int .i64 n).wf = true) : okInt n := by
 simpa [okInt, Lit.wf, IntKind.min, IntKind.max, IntKind.signed, IntKind.bits] using h
theorem list3 {α : Type} : ∀ {l : List α}, l.length = 3 → ∃ a b c, l = [a, b, c]
 | [a, b, c], _ => ⟨a, b, c, rfl⟩
theorem list7 {α : Type} : ∀ {l : List α}, l.length = 7 → ∃ a b c d e f g, l = [a, b, c, d, e, f, g]
 | [a, b, c, d, e, f, g], _ => ⟨a, b, c, d, e, f, g, rfl⟩
theorem own : ownKnob Tryd.prog.godebug = none := by kernel_rfl
theorem laidOut : laidOutB Tryd.prog = true := by kernel_rfl
section
variable {H : Type} {enc : TypeId × Value → H} {W : World} {sp : Nat → Bool} {held : Bool}
theorem cells_at {a : Addr} {i sz : Nat} {cs : List Value} (h : W.cells? 0 (a.add i) sz = some cs) (j : Nat) (u : Value) (hj : cs[j]? = some u) : W.cell? (a.add (i + j)) = some u := by
 obtain ⟨_, hl, hc⟩ := World.cells?_some h
 have hlt : j < cs.length := by
  rcases Nat.lt_or_ge j cs.length with h' | h'
  ·exact h'
  ·rw [List.getElem?_eq_none h'] at hj; cases hj
 have := hc j (by omega)
 rw [Go.Deep.add_add] at this
 rw [this, hj]
theorem row_strs {fuel : Nat} {cs : List Value} {x : DataW H × List MemPlace} (h : DataW.trod enc Tryd.prog W 0 sp held fuel 28 cs = some x) :
  ∃ A c l, cs = [.slice A l.length c] ∧ l.length ≤ c ∧ Kd.C Kd.string W A l.length l ∧ ∀ s ∈ l, s.size ≤ 9223372036854775807 := by
 rcases Go.Deep.open_strs Tryd.underlying28 Tryd.underlying9 (by kernel_rfl) h with ⟨rfl, _⟩ | ⟨a, len, cap, m, Sx, rfl, _, hl, hm, hmm, _, hc⟩
 ·exact ⟨none, 0, [], rfl, Nat.le_refl _, Kd.C_nil _ _, fun s hs => by cases hs⟩
 ·have hlm : len ≤ m := by rw [hmm]; split <;> omega
  refine ⟨some a, cap, (List.range len).map Sx, by rw [List.length_map, List.length_range], by rw [List.length_map, List.length_range]; exact hl, ?_, ?_⟩
  ·rw [List.length_map, List.length_range]
   refine Kd.C_of_reads (enc := Value.string) (d := ByteArray.empty) (h1 := fun _ => rfl) ⟨by rw [List.length_map, List.length_range], Nat.le_trans hl hm, fun _ => ⟨a, rfl, fun j hj => ?_⟩⟩
   rw [(hc j (by omega)).1]
   simp [List.getD, hj]
  ·intro s hs
   obtain ⟨i, hi, rfl⟩ := List.mem_map.1 hs
   rw [List.mem_range] at hi
   exact (hc i (by omega)).2
set_option maxRecDepth 100000 in
theorem row_edit {n : Nat} {cs : List Value} {x : DataW H × List MemPlace} (h : DataW.trod enc Tryd.prog W 0 sp held n 52 cs = some x) : ∃ y : S52, cs.length = 3 ∧ k52.K W y cs ∧ okEdit y := by
 obtain ⟨y0, y1, y2, n', _, hl, h0, h1, h2⟩ := Go.Deep.trod_struct3 Tryd.underlying52 h
 have hl3 : cs.length = 3 := by rw [hl]; kernel_rfl
 have e0 : Tryd.prog.cellsOf 3 = 1 := by kernel_rfl
 have e2 : Tryd.prog.cellsOf 28 = 1 := by kernel_rfl
 obtain ⟨v0, v1, v2, rfl⟩ := list3 hl3
 ·clear hl
  simp only [e0, e2, List.drop_zero, List.drop_succ_cons, List.take_succ_cons, List.take_zero] at h0 h1 h2
  obtain ⟨z0, q0, _, w0⟩ := DataW.trod_int Tryd.underlying3 h0
  obtain ⟨z1, q1, _, w1⟩ := DataW.trod_int Tryd.underlying3 h1
  obtain ⟨A, c, l, q2, hc, hC, _⟩ := row_strs h2
  simp only [List.cons.injEq, and_true] at q0 q1 q2
  subst q0 q1 q2
  exact ⟨⟨z0, z1, l⟩, rfl, k52_mk W ⟨z0, z1, l⟩ hc hC, wf_ok w0, wf_ok w1⟩
theorem row_edits {fuel : Nat} {cs : List Value} {x : DataW H × List MemPlace} (h : DataW.trod enc Tryd.prog W 0 sp held fuel 29 cs = some x) :
  ∃ A c l, cs = [.slice A l.length c] ∧ l.length ≤ c ∧ Kd.C k52 W A l.length l ∧ ∀ y ∈ l, okEdit y := by
 rcases Go.Deep.open_slice Tryd.underlying29 h with ⟨rfl, _⟩ | ⟨a, len, cap, m, n, D, Pl, rfl, _, hl, hm, hmm, _, hx⟩
 ·exact ⟨none, 0, [], rfl, Nat.le_refl _, Kd.C_nil _ _, fun s hs => by cases hs⟩
 ·have hlm : len ≤ m := by rw [hmm]; split <;> omega
  have e3 : Tryd.prog.cellsOf 52 = 3 := by kernel_rfl
  rw [e3] at hx
  have key : ∀ i, i < len → ∃ y : S52, ∃ cs' : List Value, W.cells? 0 (a.add (i * 3)) 3 = some cs' ∧ cs'.length = 3 ∧ k52.K W y cs' ∧ okEdit y := fun i hi => by
   obtain ⟨cs', h1, h2⟩ := hx i (by omega)
   obtain ⟨y, h3, h4, h5⟩ := row_edit h2
   exact ⟨y, cs', h1, h3, h4, h5⟩
  haveI : Inhabited S52 := ⟨z52⟩
  obtain ⟨Y, hY⟩ := Go.Deep.choose_lt key
  refine ⟨some a, cap, (List.range len).map Y, by rw [List.length_map, List.length_range], by rw [List.length_map, List.length_range]; exact hl, ?_, ?_⟩
  ·rw [List.length_map, List.length_range]
   refine ⟨by rw [List.length_map, List.length_range], Nat.le_trans hl hm, fun _ => ⟨a, rfl, fun j p hj => ?_⟩⟩
   rw [List.getElem?_map, Option.map_eq_some_iff] at hj
   obtain ⟨i, hi, rfl⟩ := hj
   obtain ⟨h1, h2⟩ := List.getElem?_eq_some_iff.1 hi
   rw [List.getElem_range] at h2
   rw [List.length_range] at h1
   subst h2
   obtain ⟨cs', hc, hl3, hK, _⟩ := hY j h1
   exact ⟨cs', hl3, hK, fun q u hq => cells_at hc q u hq⟩
  ·intro s hs
   obtain ⟨i, hi, rfl⟩ := List.mem_map.1 hs
   rw [List.mem_range] at hi
   obtain ⟨_, _, _, _, h⟩ := hY i hi
   exact h
set_option maxRecDepth 100000 in
theorem row_frame {r : Reach} {b0 : Nat} {v : Value} {d : DataW H} {ps : List MemPlace} (hv : Value.okWide Tryd.prog W r b0 31 v) (h : DataW.Trod enc Tryd.prog W 0 sp held 31 v d ps) :
  ∃ n0 n1 n2 n3 n4 A5 c5 l5 A6 c6 l6, v = .agg #[.int .i64 n0, .int .i64 n1, .int .i64 n2, .int .i64 n3, .int .i64 n4, .slice A5 (List.length l5) c5, .slice A6 (List.length l6) c6] ∧ (okInt n0 ∧ okInt n1 ∧ okInt n2 ∧ okInt n3 ∧ okInt n4) ∧
   l5.length ≤ c5 ∧ Kd.C Kd.string W A5 l5.length l5 ∧ l6.length ≤ c6 ∧ Kd.C k52 W A6 l6.length l6 ∧ ∀ y ∈ l6, okEdit y := by
 obtain ⟨cs, rfl, hsz⟩ := okWide_struct Tryd.underlying31 hv
 obtain ⟨fuel, hf⟩ := h
 have hcl : (Value.agg cs).cells.toList = cs.toList := rfl
 rw [hcl] at hf
 obtain ⟨xs, n, rfl, _, hl, hxl, hall⟩ := DataW.trod_struct Tryd.underlying31 hf
 have hl7 : cs.toList.length = 7 := by rw [hl]; kernel_rfl
 obtain ⟨v0, v1, v2, v3, v4, v5, v6, hcs⟩ := list7 hl7
 obtain ⟨y0, y1, y2, y3, y4, y5, y6, rfl⟩ := list7 (show xs.length = 7 from hxl)
 rw [hcs] at hall
 have e0 : Tryd.prog.cellsOf 3 = 1 := by kernel_rfl
 have e2 : Tryd.prog.cellsOf 28 = 1 := by kernel_rfl
 have e3 : Tryd.prog.cellsOf 29 = 1 := by kernel_rfl
 have h0 : DataW.trod enc Tryd.prog W 0 sp held n 3 (([v0, v1, v2, v3, v4, v5, v6].drop 0).take (Tryd.prog.cellsOf 3)) = [y0, y1, y2, y3, y4, y5, y6][0]? := hall 0 _ rfl
 have h1 : DataW.trod enc Tryd.prog W 0 sp held n 3 (([v0, v1, v2, v3, v4, v5, v6].drop 1).take (Tryd.prog.cellsOf 3)) = [y0, y1, y2, y3, y4, y5, y6][1]? := hall 1 _ rfl
 have h2 : DataW.trod enc Tryd.prog W 0 sp held n 3 (([v0, v1, v2, v3, v4, v5, v6].drop 2).take (Tryd.prog.cellsOf 3)) = [y0, y1, y2, y3, y4, y5, y6][2]? := hall 2 _ rfl
 have h3 : DataW.trod enc Tryd.prog W 0 sp held n 3 (([v0, v1, v2, v3, v4, v5, v6].drop 3).take (Tryd.prog.cellsOf 3)) = [y0, y1, y2, y3, y4, y5, y6][3]? := hall 3 _ rfl
 have h4 : DataW.trod enc Tryd.prog W 0 sp held n 3 (([v0, v1, v2, v3, v4, v5, v6].drop 4).take (Tryd.prog.cellsOf 3)) = [y0, y1, y2, y3, y4, y5, y6][4]? := hall 4 _ rfl
 have h5 : DataW.trod enc Tryd.prog W 0 sp held n 28 (([v0, v1, v2, v3, v4, v5, v6].drop 5).take (Tryd.prog.cellsOf 28)) = [y0, y1, y2, y3, y4, y5, y6][5]? := hall 5 _ rfl
 have h6 : DataW.trod enc Tryd.prog W 0 sp held n 29 (([v0, v1, v2, v3, v4, v5, v6].drop 6).take (Tryd.prog.cellsOf 29)) = [y0, y1, y2, y3, y4, y5, y6][6]? := hall 6 _ rfl
 simp only [e0, e2, e3, List.drop_zero, List.drop_succ_cons, List.take_succ_cons, List.take_zero, List.getElem?_cons_zero, List.getElem?_cons_succ] at h0 h1 h2 h3 h4 h5 h6
 obtain ⟨z0, q0, _, w0⟩ := DataW.trod_int Tryd.underlying3 h0
 obtain ⟨z1, q1, _, w1⟩ := DataW.trod_int Tryd.underlying3 h1
 obtain ⟨z2, q2, _, w2⟩ := DataW.trod_int Tryd.underlying3 h2
 obtain ⟨z3, q3, _, w3⟩ := DataW.trod_int Tryd.underlying3 h3
 obtain ⟨z4, q4, _, w4⟩ := DataW.trod_int Tryd.underlying3 h4
 obtain ⟨A5, c5, l5, q5, hc5, hC5, _⟩ := row_strs h5
 obtain ⟨A6, c6, l6, q6, hc6, hC6, ho6⟩ := row_edits h6
 simp only [List.cons.injEq, and_true] at q0 q1 q2 q3 q4 q5 q6
 subst q0 q1 q2 q3 q4 q5 q6
 refine ⟨z0, z1, z2, z3, z4, A5, c5, l5, A6, c6, l6, ?_, ⟨wf_ok w0, wf_ok w1, wf_ok w2, wf_ok w3, wf_ok w4⟩, hc5, hC5, hc6, hC6, ho6⟩
 rw [← Array.toArray_toList (xs := cs), hcs]
end
theorem iface_cells {H : Type} {enc : TypeId × Value → H} {P : Program} {w : World} {base : Nat} {sp : Nat → Bool} {t : TypeId} {ms : Array (String × TypeId)} {nm : String} {d : DataW H} {p : List MemPlace} {fuel : Nat} {cs : List Value}
  (ht : P.underlying t = some (.interface ms)) (h : DataW.trod enc P w base sp false fuel t cs = some (.iface nm d, p)) : ∃ u v, cs = [.iface u v] := by
 cases fuel with
 | zero => simp [DataW.trod] at h
 | succ n =>
  unfold DataW.trod at h
  rw [ht] at h
  split at h <;> simp_all
def varRow (P : Program) (n : String) : Bool := match (P.globalNamed n).bind (fun g => (P.globals[g]?).map (·.type)) with
 | some t => match P.underlying t with
  | some (.interface _) => true
  | _ => false
 | none => false
theorem var_is {w : World} {n : String} {D : DataW Unit} {l : List (String × DataW Unit)} (h : laidMet Tryd.prog l w) (hm : ∀ ps, DataW.LaidVars Tryd.prog w l ps → ∃ g t cs fuel p, Tryd.prog.globalNamed n = some g ∧ (Tryd.prog.globals[g]?).map (·.type) = some t ∧ w.var? Tryd.prog n = some cs ∧ DataW.trod (fun _ => ()) Tryd.prog w 0 (fun _ => true) false fuel t cs.toList = some (D, p)) (hD : ∃ nm d, D = .iface nm d) (hr : varRow Tryd.prog n = true) : VarIs w n := by
 obtain ⟨ps, hv, _⟩ := h
 obtain ⟨g, t, cs, fuel, p, h1, h2, h3, h4⟩ := hm ps hv
 obtain ⟨nm, d, rfl⟩ := hD
 unfold varRow at hr
 rw [h1] at hr
 simp only [Option.bind_some, h2] at hr
 split at hr
 ·rename_i ms hu
  obtain ⟨u, v, hc⟩ := iface_cells hu h4
  refine ⟨u, v, ?_⟩
  rw [h3, ← Array.toArray_toList (xs := cs), hc]
 ·cases hr
theorem laid_of {w : World} (h : laidMetH Tryd.prog [("math/bits.deBruijn32tab", Rows.laid_math_bits_deBruijn32tab), ("math/bits.deBruijn64tab", Rows.laid_math_bits_deBruijn64tab), ("internal/strconv.uint64pow10", Rows.laid_internal_strconv_uint64pow10), ("strconv.ErrRange", Rows.laid_strconv_ErrRange), ("strconv.ErrSyntax", Rows.laid_strconv_ErrSyntax)] w) : Laid w := by
 rw [MakeChecks.laidMetH_plain _ _ _ (by kernel_rfl)] at h
 have h3 := laidMet.tail (laidMet.tail h)
 have h4 := laidMet.tail h3
 have h5 := laidMet.tail h4
 refine ⟨?_, ?_, ?_⟩
 ·obtain ⟨ps, ⟨g, t, cs, fuel, p, q, hg, ht, hvar, hd, _, _⟩, _⟩ := h3
  have e : (Tryd.prog.globalNamed "internal/strconv.uint64pow10").bind (fun g => (Tryd.prog.globals[g]?).map (·.type)) = some 136 := by kernel_rfl
  rw [hg] at e
  simp only [Option.bind_some] at e
  obtain rfl := Option.some.inj (ht.symm.trans e)
  show w.var? Tryd.prog _ = _
  rw [hvar, ← Lib.cells_of_tab (k := .u64) (zs := Lib.pow10Tab) Tryd.underlying136 Tryd.underlying111 (by kernel_rfl) (by kernel_rfl) hd]
 ·refine var_is h4 (n := "strconv.ErrRange") (D := Rows.laid_strconv_ErrRange) (fun ps hv => ?_) ⟨_, _, rfl⟩ (by kernel_rfl)
  obtain ⟨g, t, cs, fuel, p, q, hg, ht, hvar, hd, _, _⟩ := hv
  exact ⟨g, t, cs, fuel, p, hg, ht, hvar, hd⟩
 ·refine var_is h5 (n := "strconv.ErrSyntax") (D := Rows.laid_strconv_ErrSyntax) (fun ps hv => ?_) ⟨_, _, rfl⟩ (by kernel_rfl)
  obtain ⟨g, t, cs, fuel, p, q, hg, ht, hvar, hd, _, _⟩ := hv
  exact ⟨g, t, cs, fuel, p, hg, ht, hvar, hd⟩
end Go.Proofs.YtfpopmojlmpopaaDoor.H

end
section
namespace Go.Proofs.YtfpopmojlmpopaaDoor.H
open Go.ChangeShapes Go.WideShapes Go.ChangeAt Go.RowKit Go.Proofs.YtfpopmojlmpopaaDoorW.PrintWords Go.Proofs.YtfpopmojlmpopaaDoorW.PrintLast Go.Proofs.YtfpopmojlmpopaaDoorW.PrintMore Go.Proofs.YtfpopmojlmpopaaDoor.G
set_option linter.unusedVariables false
set_option linter.unusedSimpArgs false
theorem wf_u16 {n : Int} (h : (Lit.int .u16 n).wf = true) : 0 ≤ n ∧ n ≤ 65535 := by
 simpa [Lit.wf, IntKind.min, IntKind.max, IntKind.signed, IntKind.bits] using h
end Go.Proofs.YtfpopmojlmpopaaDoor.H

end
section
namespace Go.Proofs.YtfpopmojlmpopaaDoor.H
open Go.RowKit Go.Proofs.YtfpopmojlmpopaaDoorW.PrintWords Go.Proofs.YtfpopmojlmpopaaDoorW.PrintLast Go.Proofs.YtfpopmojlmpopaaDoorW.PrintMore
set_option linter.unusedVariables false
set_option linter.unusedSimpArgs false
def isDig (b : UInt8) : Bool := decide (48 ≤ b.toNat) && decide (b.toNat ≤ 57)
def dEnd (s : ByteArray) (i : Nat) : Nat := i + ((s.data.toList.drop i).takeWhile isDig).length
def okNum (d : ByteArray) : Bool := (d.toList == [48]) || ((d.toList != []) && (bt d 0 != 48))
theorem tw_in (p : UInt8 → Bool) (l : List UInt8) (j : Nat) (h : j < (l.takeWhile p).length) : ∃ h' : j < l.length, p l[j] = true := by
 induction l generalizing j with
 | nil => simp at h
 | cons x l ih =>
  by_cases hx : p x = true
  ·rw [List.takeWhile_cons_of_pos hx] at h
   cases j with
   | zero => exact ⟨by simp, hx⟩
   | succ j => obtain ⟨h1, h2⟩ := ih j (by simpa using h); exact ⟨by simpa using h1, h2⟩
  ·rw [List.takeWhile_cons_of_neg hx] at h; simp at h
theorem tw_stop (p : UInt8 → Bool) (l : List UInt8) (h : (l.takeWhile p).length < l.length) : p (l[(l.takeWhile p).length]) = false := by
 induction l with
 | nil => simp at h
 | cons x l ih =>
  by_cases hx : p x = true
  ·have e := List.takeWhile_cons_of_pos (l := l) hx
   simp only [e, List.length_cons] at h ⊢
   simpa using ih (by omega)
  ·have e := List.takeWhile_cons_of_neg (l := l) hx
   simp only [e, List.length_nil, List.getElem_cons_zero]
   simpa using hx
theorem tw_le (p : UInt8 → Bool) (l : List UInt8) : (l.takeWhile p).length ≤ l.length := (List.takeWhile_sublist p).length_le
theorem size_list (s : ByteArray) : s.data.toList.length = s.size := by rw [Array.length_toList]; rfl
theorem bt_nat (s : ByteArray) (k : Nat) (h : k < s.size) : bt s (k : Int) = ((s.data.toList[k]'(by rw [size_list]; exact h)).toNat : Int) := by
 have h' : ((k : Int)).toNat < s.size := by rw [Int.toNat_natCast]; exact h
 unfold bt
 rw [dif_pos h']
 rfl
theorem dEnd_ge (s : ByteArray) (i : Nat) : i ≤ dEnd s i := by unfold dEnd; omega
theorem dEnd_le (s : ByteArray) (i : Nat) (h : i ≤ s.size) : dEnd s i ≤ s.size := by
 have := tw_le isDig (s.data.toList.drop i)
 rw [List.length_drop, size_list] at this
 unfold dEnd; omega
theorem dEnd_in (s : ByteArray) (i k : Nat) (h1 : i ≤ k) (h2 : k < dEnd s i) : k < s.size ∧ 48 ≤ bt s k ∧ bt s k ≤ 57 := by
 obtain ⟨h3, h4⟩ := tw_in isDig (s.data.toList.drop i) (k - i) (by unfold dEnd at h2; omega)
 have h5 : k < s.size := by rw [List.length_drop, size_list] at h3; omega
 refine ⟨h5, ?_⟩
 rw [bt_nat s k h5]
 simp only [List.getElem_drop, show i + (k - i) = k from by omega, isDig, Bool.and_eq_true, decide_eq_true_eq] at h4
 omega
theorem dEnd_stop (s : ByteArray) (i : Nat) (h : dEnd s i < s.size) : ¬ (48 ≤ bt s (dEnd s i : Nat) ∧ bt s (dEnd s i : Nat) ≤ 57) := by
 have h1 : ((s.data.toList.drop i).takeWhile isDig).length < (s.data.toList.drop i).length := by rw [List.length_drop, size_list]; unfold dEnd at h; omega
 have h2 := tw_stop isDig (s.data.toList.drop i) h1
 rw [bt_nat s _ h]
 simp only [List.getElem_drop, isDig, Bool.and_eq_false_iff, decide_eq_false_iff_not] at h2
 unfold dEnd
 omega
theorem bytes_ne (d : ByteArray) (l : List UInt8) (b : ByteArray) (hb : b.data.toList = l) (h : d ≠ b) : (d.toList == l) = false := by
 rw [ByteArray.toList_eq, beq_eq_false_iff_ne, ← hb]
 intro hc
 apply h
 obtain ⟨⟨x⟩⟩ := d
 obtain ⟨⟨y⟩⟩ := b
 simp only at hc
 rw [hc]
theorem okNum_48 : okNum ⟨#[48]⟩ = true := by simp [okNum, ByteArray.toList_eq]
theorem okNum_0 : okNum ⟨#[]⟩ = false := by simp [okNum, ByteArray.toList_eq]
theorem okNum_any (d : ByteArray) (h1 : (d.toList == [48]) = false) (h2 : (d.toList == []) = false) (h3 : 0 < d.size) : okNum d = (((d[0]'h3).toNat : Int) != 48) := by
 have h := bt_at d 0 h3
 show ((d.toList == [48]) || ((!(d.toList == [])) && !(bt d 0 == 48))) = _
 rw [h1, h2, ← h]
 rfl
set_option maxRecDepth 100000 in
set_option maxHeartbeats 1000000 in
theorem encode_digits_calls (s : ByteArray) (i : Nat) (hi : i ≤ s.size) (hs : s.size ≤ 140737488355328) (w : World) :
  Calls Tryd.prog 69 #[.string s, .int .i64 i] w fun e w' => e = .returned (.tuple #[.string (s.extract i (dEnd s i)), .bool (okNum (s.extract i (dEnd s i)))]) ∧ Drawn0 w w' := by
 have hde := dEnd_le s i hi
 have hge := dEnd_ge s i
 have HIN := Lib.hid (dEnd_in s i)
 have HST := Lib.hid (dEnd_stop s i)
 obtain ⟨n, hn⟩ : ∃ n, dEnd s i = n := ⟨_, rfl⟩
 rw [hn] at hde hge HIN HST ⊢
 clear hn
 go_enter Tryd.func69, Tryd.ntmps69
 go_wp2_with fail
 go_loop [6] (fun v => ∃ k : Nat, i ≤ k ∧ k ≤ n ∧ v = .int .i64 k) (fun v => n - (intOf v).toNat)
 case atStart => exact ⟨i, Nat.le_refl _, hge, rfl⟩
 case round =>
  obtain ⟨k, hk0, hk1, rfl⟩ := hrel
  by_cases hlt : k < n
  ·obtain ⟨hks, hb0, hb1⟩ := HIN.out k hk0 hlt
   have c1 : decide ((k : Int) < (s.size : Int)) = true := decide_eq_true (by omega)
   have c2 := eq_true (show (0 : Int) ≤ (k : Int) from by omega)
   have c3 := eq_true (show (k : Int) < (s.size : Int) from by omega)
   have hx : ((s[k]'hks).toNat : Int) = bt s (k : Int) := by simpa using bt_at s (k : Int) (by simpa using hks)
   have d0 : decide (48 ≤ ((s[k]'hks).toNat : Int)) = true := decide_eq_true (by omega)
   have d1 : decide (((s[k]'hks).toNat : Int) ≤ 57) = true := decide_eq_true (by omega)
   have d0' := eq_true (show 48 ≤ ((s[k]'hks).toNat : Int) from by omega)
   have d1' := eq_true (show ((s[k]'hks).toNat : Int) ≤ 57 from by omega)
   have d2' := eq_false (show ¬ (57 < ((s[k]'hks).toNat : Int)) from by omega)
   go_wp2_with fail
   go_round
   case rel => exact ⟨k + 1, by omega, by omega, by go_num⟩
   case measure => simp [intOf]; omega
  ·obtain rfl : k = n := by omega
   have e0 := eq_true (show (0 : Int) ≤ (i : Int) from by omega)
   have e1 := eq_true (show (i : Int) ≤ (k : Int) from by omega)
   have e2 := eq_true (show (k : Int) ≤ (s.size : Int) from by omega)
   have e0' := decide_eq_true (show (0 : Int) ≤ (i : Int) from by omega)
   have e1' := decide_eq_true (show (i : Int) ≤ (k : Int) from by omega)
   have e2' := decide_eq_true (show (k : Int) ≤ (s.size : Int) from by omega)
   obtain ⟨d, hd⟩ : ∃ d, s.extract i k = d := ⟨_, rfl⟩
   rcases (show k = s.size ∨ (∃ h : k < s.size, ((s[k]'h).toNat : Int) < 48) ∨ (∃ h : k < s.size, 48 ≤ ((s[k]'h).toNat : Int) ∧ 57 < ((s[k]'h).toNat : Int)) from by
    by_cases hks : k < s.size
    ·have hx : ((s[k]'hks).toNat : Int) = bt s (k : Int) := by simpa using bt_at s (k : Int) (by simpa using hks)
     have := HST.out hks
     by_cases h48 : ((s[k]'hks).toNat : Int) < 48
     ·exact .inr (.inl ⟨hks, h48⟩)
     ·exact .inr (.inr ⟨hks, by omega, by omega⟩)
    ·exact .inl (by omega)) with hz | ⟨hz, hz1⟩ | ⟨hz, hz1, hz2⟩
   ·have z1 : decide ((k : Int) < (s.size : Int)) = false := decide_eq_false (by omega)
    subst hz
    go_wp2_with fail
    rcases Classical.em (d = ⟨#[48]⟩) with r1 | r1
    ·subst r1
     go_quiet (fail)
     go_wp2_with fail
     go_ret2
     exact ⟨by rw [hd, okNum_48]; rfl, _, rfl⟩
    ·have r2 : (d.toList == [48]) = false := bytes_ne d [48] ⟨#[48]⟩ rfl r1
     rcases Classical.em (d = ⟨#[]⟩) with r3 | r3
     ·subst r3
      go_quiet (fail)
      go_wp2_with fail
      go_ret2
      exact ⟨by rw [hd, okNum_0]; rfl, _, rfl⟩
     ·have r4 : (d.toList == []) = false := bytes_ne d [] ⟨#[]⟩ rfl r3
      have r5 : 0 < d.size := Nat.pos_of_ne_zero fun h => r3 (by
       cases d with | mk d => simp only [ByteArray.size] at h; rw [Array.eq_empty_of_size_eq_zero h])
      have r6 := eq_true r5
      have r7 := bt_at d 0 r5
      go_quiet (fail)
      go_wp2_with fail
      go_ret2
      exact ⟨by rw [hd, okNum_any d r2 r4 r5]; rfl, _, rfl⟩
   ·have z1 : decide ((k : Int) < (s.size : Int)) = true := decide_eq_true (by omega)
    have z2 : decide (48 ≤ ((s[k]'hz).toNat : Int)) = false := decide_eq_false (by omega)
    go_wp2_with fail
    rcases Classical.em (d = ⟨#[48]⟩) with r1 | r1
    ·subst r1
     go_quiet (fail)
     go_wp2_with fail
     go_ret2
     exact ⟨by rw [hd, okNum_48]; rfl, _, rfl⟩
    ·have r2 : (d.toList == [48]) = false := bytes_ne d [48] ⟨#[48]⟩ rfl r1
     rcases Classical.em (d = ⟨#[]⟩) with r3 | r3
     ·subst r3
      go_quiet (fail)
      go_wp2_with fail
      go_ret2
      exact ⟨by rw [hd, okNum_0]; rfl, _, rfl⟩
     ·have r4 : (d.toList == []) = false := bytes_ne d [] ⟨#[]⟩ rfl r3
      have r5 : 0 < d.size := Nat.pos_of_ne_zero fun h => r3 (by
       cases d with | mk d => simp only [ByteArray.size] at h; rw [Array.eq_empty_of_size_eq_zero h])
      have r6 := eq_true r5
      have r7 := bt_at d 0 r5
      go_quiet (fail)
      go_wp2_with fail
      go_ret2
      exact ⟨by rw [hd, okNum_any d r2 r4 r5]; rfl, _, rfl⟩
   ·have z1 : decide ((k : Int) < (s.size : Int)) = true := decide_eq_true (by omega)
    have z2 : decide (48 ≤ ((s[k]'hz).toNat : Int)) = true := decide_eq_true (by omega)
    have z3 : decide (((s[k]'hz).toNat : Int) ≤ 57) = false := decide_eq_false (by omega)
    go_wp2_with fail
    rcases Classical.em (d = ⟨#[48]⟩) with r1 | r1
    ·subst r1
     go_quiet (fail)
     go_wp2_with fail
     go_ret2
     exact ⟨by rw [hd, okNum_48]; rfl, _, rfl⟩
    ·have r2 : (d.toList == [48]) = false := bytes_ne d [48] ⟨#[48]⟩ rfl r1
     rcases Classical.em (d = ⟨#[]⟩) with r3 | r3
     ·subst r3
      go_quiet (fail)
      go_wp2_with fail
      go_ret2
      exact ⟨by rw [hd, okNum_0]; rfl, _, rfl⟩
     ·have r4 : (d.toList == []) = false := bytes_ne d [] ⟨#[]⟩ rfl r3
      have r5 : 0 < d.size := Nat.pos_of_ne_zero fun h => r3 (by
       cases d with | mk d => simp only [ByteArray.size] at h; rw [Array.eq_empty_of_size_eq_zero h])
      have r6 := eq_true r5
      have r7 := bt_at d 0 r5
      go_quiet (fail)
      go_wp2_with fail
      go_ret2
      exact ⟨by rw [hd, okNum_any d r2 r4 r5]; rfl, _, rfl⟩
end Go.Proofs.YtfpopmojlmpopaaDoor.H

end
section
namespace Go.Proofs.YtfpopmojlmpopaaDoor.H
open Go.RowKit Go.Proofs.YtfpopmojlmpopaaDoorW.PrintWords Go.Proofs.YtfpopmojlmpopaaDoorW.PrintLast Go.Proofs.YtfpopmojlmpopaaDoorW.PrintMore
set_option linter.unusedVariables false
set_option linter.unusedSimpArgs false
def minusAt (s : ByteArray) (i : Nat) : Bool := Lib.hasPrefix (s.extract (i + 1) s.size).data.toList [45]
def fromAt (s : ByteArray) (i : Nat) : Nat := if minusAt s i then i + 2 else i + 1
def integerN (s : ByteArray) (i : Nat) : Option (Int × Nat) :=
 if i < s.size ∧ bt s i = 105 then
  if okNum (s.extract (fromAt s i) (dEnd s (fromAt s i))) = true ∧ ¬ (minusAt s i = true ∧ s.extract (fromAt s i) (dEnd s (fromAt s i)) = ⟨#[48]⟩) ∧ dEnd s (fromAt s i) < s.size ∧ bt s (dEnd s (fromAt s i) : Nat) = 59 then
   match Lib.parseIntB 64 (s.extract (i + 1) (dEnd s (fromAt s i))).data.toList with
   | .ok v => some (v, dEnd s (fromAt s i) + 1)
   | _ => none
  else none
 else none
def outN : Option (Int × Nat) → Int × Int
 | some (v, n) => (v, n)
 | none => (0, -1)
theorem minus_lt (s : ByteArray) (i : Nat) (h : minusAt s i = true) : i + 1 < s.size := by
 by_cases hc : i + 1 < s.size
 ·exact hc
 ·have : s.extract (i + 1) s.size = ⟨#[]⟩ := by
   apply ByteArray.ext
   simp only [ByteArray.data_extract]
   apply Array.extract_empty_of_size_le_start
   show s.size ≤ i + 1
   omega
  unfold minusAt at h
  rw [this] at h
  simp [Lib.hasPrefix] at h
set_option maxHeartbeats 8000000 in
set_option maxRecDepth 100000 in
theorem encode_integer_calls (s : ByteArray) (i : Nat) (hi : i ≤ s.size) (hs : s.size ≤ 140737488355328) (w : World) (hL : Laid w) :
  Calls Tryd.prog 57 #[.string s, .int .i64 i] w fun e w' => e = .returned (.tuple #[.int .i64 (outN (integerN s i)).1, .int .i64 (outN (integerN s i)).2]) ∧ Below w.heap.size w w' := by
 obtain ⟨r, hr⟩ : ∃ r, integerN s i = r := ⟨_, rfl⟩
 rw [hr]
 have HL := Lib.hid hL
 have HR := Lib.hid hr
 clear hL hr
 go_enter Tryd.func57, Tryd.ntmps57
 rcases (show i = s.size ∨ ∃ h : i < s.size, ((s[i]'h).toNat : Int) = bt s (i : Int) from by
  by_cases h : i < s.size
  ·exact .inr ⟨h, by simpa using bt_at s (i : Int) (by simpa using h)⟩
  ·exact .inl (by omega)) with hz | ⟨hz, hb⟩
 ·subst hz
  obtain rfl : r = none := by rw [← HR.out]; simp [integerN]
  go_wp2_with fail
  go_ret2
  exact ⟨rfl, Below.refl _ _⟩
 ·have x1 := eq_false (show ¬ ((s.size : Int) ≤ (i : Int)) from by omega)
  have x2 := eq_true (show (0 : Int) ≤ (i : Int) from by omega)
  have x3 := eq_true (show (i : Int) < (s.size : Int) from by omega)
  have x4 := eq_true hz
  by_cases h105 : bt s (i : Int) = 105
  ·have y1 : (((s[i]'hz).toNat : Int) == 105) = true := by rw [hb, h105]; rfl
   have y2 : (((s[i]'hz).toNat : Int) != 105) = false := by rw [bne, y1]; rfl
   have x5 := eq_true (show (0 : Int) ≤ (i : Int) + 1 from by omega)
   have x6 := eq_true (show (i : Int) + 1 ≤ (s.size : Int) from by omega)
   have x7 : ((i : Int) + 1).toNat = i + 1 := by omega
   have x8 : ((i : Int) + 2).toNat = i + 2 := by omega
   go_wp2_with fail
   refine (Tryd.strings_HasPrefix (s.extract (i + 1) s.size) ⟨#[45]⟩ w).mono ?_
   rintro e w0 ⟨rfl, hw0⟩
   rw [hw0]
   clear hw0
   obtain ⟨m, hm⟩ : ∃ m, minusAt s i = m := ⟨_, rfl⟩
   have hm' : Lib.hasPrefix (s.extract (i + 1) s.size).data.toList [45] = m := hm
   simp only [hm']
   cases m
   ·go_wp2_with fail
    obtain ⟨n, hn⟩ : ∃ n, dEnd s (i + 1) = n := ⟨_, rfl⟩
    have hnle := dEnd_le s (i + 1) (by omega)
    have hnge := dEnd_ge s (i + 1)
    refine (encode_digits_calls s (i + 1) (by omega) hs w).mono ?_
    rintro e w1 ⟨rfl, hw1⟩
    rw [hn] at hnle hnge
    have HW1 := Lib.hid hw1
    clear hw1
    simp only [hn]
    have hdz : (s.extract (i + 1) n).size = n - (i + 1) := by rw [ByteArray.size_extract]; omega
    obtain ⟨d, hd⟩ : ∃ d, s.extract (i + 1) n = d := ⟨_, rfl⟩
    rw [hd] at hdz ⊢
    obtain ⟨ok, hok⟩ : ∃ ok, okNum d = ok := ⟨_, rfl⟩
    rw [hok]
    have hfr : fromAt s i = i + 1 := by simp [fromAt, hm]
    have v1 : ((i : Int) + 1) + (d.size : Int) = (n : Int) := by omega
    clear hdz
    cases ok
    ·obtain rfl : r = none := by rw [← HR.out]; simp [integerN, hfr, hn, hd, hok]
     go_wp2_with fail
     go_ret2
     exact ⟨rfl, HW1.out.below⟩
    ·skip
     by_cases hn1 : n < s.size
     ·have q1 := eq_false (show ¬ ((s.size : Int) ≤ (n : Int)) from by omega)
      have q2 := eq_true (show (0 : Int) ≤ (n : Int) from by omega)
      have q3 := eq_true (show (n : Int) < (s.size : Int) from by omega)
      have q4 := eq_true hn1
      have q5 : ((s[n]'hn1).toNat : Int) = bt s (n : Int) := by simpa using bt_at s (n : Int) (by simpa using hn1)
      by_cases hn59 : bt s (n : Int) = 59
      ·have q6 : (((s[n]'hn1).toNat : Int) == 59) = true := by rw [q5, hn59]; rfl
       have q7 : (((s[n]'hn1).toNat : Int) != 59) = false := by rw [bne, q6]; rfl
       have p1 := eq_true (show (0 : Int) ≤ (i : Int) + 1 from by omega)
       have p2 := eq_true (show (i : Int) + 1 ≤ (n : Int) from by omega)
       have p3 := eq_true (show (n : Int) ≤ (s.size : Int) from by omega)
       go_wp2_with fail
       have hpz : (s.extract (i + 1) n).size ≤ s.size := by rw [ByteArray.size_extract]; omega
       have hpz2 : d.size ≤ s.size := by rw [← hd]; exact hpz
       cases hp : Lib.parseIntB 64 (s.extract (i + 1) n).data.toList with
       | ok v =>
        have hp2 : Lib.parseIntB 64 d.data.toList = .ok v := by rw [← hd]; exact hp
        obtain rfl : r = some (v, n + 1) := by rw [← HR.out]; simp only [integerN, hz, h105, hfr, hn, hd, hok, hn1, hn59, hp2, hm, and_self, not_false_eq_true, false_and, and_false, Bool.false_eq_true, if_true]
        refine (Tryd.strconv_ParseInt_10_at64_ok d (Nat.le_trans hpz2 (Nat.le_trans hs (by decide))) v hp2 w1).mono ?_
        rintro e w2 ⟨rfl, hw2⟩
        have HW2 : Hid (Below w.heap.size w w2) := Lib.hid (by
         rcases hw2 with rfl | ⟨t, rfl⟩
         ·exact HW1.out.below
         ·exact bytes_below HW1.out.below HW1.out.below.size _ _)
        clear hw2
        go_wp2_with fail
        go_ret2
        exact ⟨rfl, HW2.out⟩
       | range =>
        have hp2 : Lib.parseIntB 64 d.data.toList = .range := by rw [← hd]; exact hp
        obtain rfl : r = none := by rw [← HR.out]; simp only [integerN, hz, h105, hfr, hn, hd, hok, hn1, hn59, hp2, hm, and_self, not_false_eq_true, false_and, and_false, Bool.false_eq_true, if_true]
        obtain ⟨tp, p, hv⟩ := (HL.out.below HW1.out.below).range
        refine (Tryd.strconv_ParseInt_10_at64_range_var d (Nat.le_trans hpz2 (Nat.le_trans hs (by decide))) hp2 tp p w1 hv).mono ?_
        rintro e w2 ⟨N, rfl, hN, hb2, hbl⟩
        clear hv hb2
        have HW2 : Hid (Below w.heap.size w w2) := Lib.hid (HW1.out.below.trans (hbl.mono HW1.out.below.size))
        clear hbl
        go_wp2_with fail
        go_ret2
        exact ⟨rfl, HW2.out⟩
       | _ =>
        have hp2 := hp
        rw [hd] at hp2
        obtain rfl : r = none := by rw [← HR.out]; simp only [integerN, hz, h105, hfr, hn, hd, hok, hn1, hn59, hp2, hm, and_self, not_false_eq_true, false_and, and_false, Bool.false_eq_true, if_true]
        obtain ⟨tp, p, hv⟩ := (HL.out.below HW1.out.below).stx
        refine (Tryd.strconv_ParseInt_10_at64_syntax_var d (Nat.le_trans hpz2 (Nat.le_trans hs (by decide))) (hp2.trans (by kernel_rfl)) tp p w1 hv).mono ?_
        rintro e w2 ⟨N, rfl, hN, hb2, hbl⟩
        clear hv hb2
        have HW2 : Hid (Below w.heap.size w w2) := Lib.hid (HW1.out.below.trans (hbl.mono HW1.out.below.size))
        clear hbl
        go_wp2_with fail
        go_ret2
        exact ⟨rfl, HW2.out⟩
      ·obtain rfl : r = none := by rw [← HR.out]; simp [integerN, hfr, hn, hd, hn59]
       have q6 : (((s[n]'hn1).toNat : Int) == 59) = false := by rw [q5]; simpa using hn59
       have q7 : (((s[n]'hn1).toNat : Int) != 59) = true := by rw [bne, q6]; rfl
       go_wp2_with fail
       go_ret2
       exact ⟨rfl, HW1.out.below⟩
     ·obtain rfl : r = none := by rw [← HR.out]; simp [integerN, hfr, hn, hd, hn1]
      have q1 := eq_true (show ((s.size : Int) ≤ (n : Int)) from by omega)
      go_wp2_with fail
      go_ret2
      exact ⟨rfl, HW1.out.below⟩
   ·have x9 := minus_lt s i hm
    go_wp2_with fail
    obtain ⟨n, hn⟩ : ∃ n, dEnd s (i + 2) = n := ⟨_, rfl⟩
    have hnle := dEnd_le s (i + 2) (by omega)
    have hnge := dEnd_ge s (i + 2)
    refine (encode_digits_calls s (i + 2) (by omega) hs w).mono ?_
    rintro e w1 ⟨rfl, hw1⟩
    rw [hn] at hnle hnge
    have HW1 := Lib.hid hw1
    clear hw1
    simp only [hn]
    have hdz : (s.extract (i + 2) n).size = n - (i + 2) := by rw [ByteArray.size_extract]; omega
    obtain ⟨d, hd⟩ : ∃ d, s.extract (i + 2) n = d := ⟨_, rfl⟩
    rw [hd] at hdz ⊢
    obtain ⟨ok, hok⟩ : ∃ ok, okNum d = ok := ⟨_, rfl⟩
    rw [hok]
    have hfr : fromAt s i = i + 2 := by simp [fromAt, hm]
    have v1 : ((i : Int) + 1 + 1) + (d.size : Int) = (n : Int) := by omega
    clear hdz
    cases ok
    ·obtain rfl : r = none := by rw [← HR.out]; simp [integerN, hfr, hn, hd, hok]
     go_wp2_with fail
     go_ret2
     exact ⟨rfl, HW1.out.below⟩
    ·skip
     by_cases h48 : d = ⟨#[48]⟩
     ·obtain rfl : r = none := by rw [← HR.out]; simp [integerN, hfr, hn, hd, hm, h48]
      subst h48
      go_wp2_with fail
      go_ret2
      exact ⟨rfl, HW1.out.below⟩
     ·have z1 := bytes_ne d [48] ⟨#[48]⟩ rfl h48
      by_cases hn1 : n < s.size
      ·have q1 := eq_false (show ¬ ((s.size : Int) ≤ (n : Int)) from by omega)
       have q2 := eq_true (show (0 : Int) ≤ (n : Int) from by omega)
       have q3 := eq_true (show (n : Int) < (s.size : Int) from by omega)
       have q4 := eq_true hn1
       have q5 : ((s[n]'hn1).toNat : Int) = bt s (n : Int) := by simpa using bt_at s (n : Int) (by simpa using hn1)
       by_cases hn59 : bt s (n : Int) = 59
       ·have q6 : (((s[n]'hn1).toNat : Int) == 59) = true := by rw [q5, hn59]; rfl
        have q7 : (((s[n]'hn1).toNat : Int) != 59) = false := by rw [bne, q6]; rfl
        have p1 := eq_true (show (0 : Int) ≤ (i : Int) + 1 from by omega)
        have p2 := eq_true (show (i : Int) + 1 ≤ (n : Int) from by omega)
        have p3 := eq_true (show (n : Int) ≤ (s.size : Int) from by omega)
        go_wp2_with fail
        have hpz : (s.extract (i + 1) n).size ≤ s.size := by rw [ByteArray.size_extract]; omega
        have hpz2 : (s.extract (i + 1) n).size ≤ s.size := by exact hpz
        cases hp : Lib.parseIntB 64 (s.extract (i + 1) n).data.toList with
        | ok v =>
         have hp2 := hp
         obtain rfl : r = some (v, n + 1) := by rw [← HR.out]; simp only [integerN, hz, h105, hfr, hn, hd, hok, hn1, hn59, hp2, hm, h48, and_self, not_false_eq_true, false_and, and_false, Bool.false_eq_true, if_true]
         refine (Tryd.strconv_ParseInt_10_at64_ok (s.extract (i + 1) n) (Nat.le_trans hpz2 (Nat.le_trans hs (by decide))) v hp2 w1).mono ?_
         rintro e w2 ⟨rfl, hw2⟩
         have HW2 : Hid (Below w.heap.size w w2) := Lib.hid (by
          rcases hw2 with rfl | ⟨t, rfl⟩
          ·exact HW1.out.below
          ·exact bytes_below HW1.out.below HW1.out.below.size _ _)
         clear hw2
         go_wp2_with fail
         go_ret2
         exact ⟨rfl, HW2.out⟩
        | range =>
         have hp2 := hp
         obtain rfl : r = none := by rw [← HR.out]; simp only [integerN, hz, h105, hfr, hn, hd, hok, hn1, hn59, hp2, hm, h48, and_self, not_false_eq_true, false_and, and_false, Bool.false_eq_true, if_true]
         obtain ⟨tp, p, hv⟩ := (HL.out.below HW1.out.below).range
         refine (Tryd.strconv_ParseInt_10_at64_range_var (s.extract (i + 1) n) (Nat.le_trans hpz2 (Nat.le_trans hs (by decide))) hp2 tp p w1 hv).mono ?_
         rintro e w2 ⟨N, rfl, hN, hb2, hbl⟩
         clear hv hb2
         have HW2 : Hid (Below w.heap.size w w2) := Lib.hid (HW1.out.below.trans (hbl.mono HW1.out.below.size))
         clear hbl
         go_wp2_with fail
         go_ret2
         exact ⟨rfl, HW2.out⟩
        | _ =>
         have hp2 := hp
         obtain rfl : r = none := by rw [← HR.out]; simp only [integerN, hz, h105, hfr, hn, hd, hok, hn1, hn59, hp2, hm, h48, and_self, not_false_eq_true, false_and, and_false, Bool.false_eq_true, if_true]
         obtain ⟨tp, p, hv⟩ := (HL.out.below HW1.out.below).stx
         refine (Tryd.strconv_ParseInt_10_at64_syntax_var (s.extract (i + 1) n) (Nat.le_trans hpz2 (Nat.le_trans hs (by decide))) (hp2.trans (by kernel_rfl)) tp p w1 hv).mono ?_
         rintro e w2 ⟨N, rfl, hN, hb2, hbl⟩
         clear hv hb2
         have HW2 : Hid (Below w.heap.size w w2) := Lib.hid (HW1.out.below.trans (hbl.mono HW1.out.below.size))
         clear hbl
         go_wp2_with fail
         go_ret2
         exact ⟨rfl, HW2.out⟩
       ·obtain rfl : r = none := by rw [← HR.out]; simp [integerN, hfr, hn, hd, hn59]
        have q6 : (((s[n]'hn1).toNat : Int) == 59) = false := by rw [q5]; simpa using hn59
        have q7 : (((s[n]'hn1).toNat : Int) != 59) = true := by rw [bne, q6]; rfl
        go_wp2_with fail
        go_ret2
        exact ⟨rfl, HW1.out.below⟩
      ·obtain rfl : r = none := by rw [← HR.out]; simp [integerN, hfr, hn, hd, hn1]
       have q1 := eq_true (show ((s.size : Int) ≤ (n : Int)) from by omega)
       go_wp2_with fail
       go_ret2
       exact ⟨rfl, HW1.out.below⟩
  ·obtain rfl : r = none := by rw [← HR.out]; simp [integerN, h105]
   have y1 : (((s[i]'hz).toNat : Int) == 105) = false := by rw [hb]; simpa using h105
   have y2 : (((s[i]'hz).toNat : Int) != 105) = true := by rw [bne, y1]; rfl
   go_wp2_with fail
   go_ret2
   exact ⟨rfl, Below.refl _ _⟩
end Go.Proofs.YtfpopmojlmpopaaDoor.H

end
section
namespace Go.Proofs.YtfpopmojlmpopaaDoor.H
open Go.RowKit Go.Proofs.YtfpopmojlmpopaaDoorW.PrintWords Go.Proofs.YtfpopmojlmpopaaDoorW.PrintLast Go.Proofs.YtfpopmojlmpopaaDoorW.PrintMore
set_option linter.unusedVariables false
set_option linter.unusedSimpArgs false
theorem digits_list (s : ByteArray) (i : Nat) : (s.extract i (dEnd s i)).data.toList = (s.data.toList.drop i).takeWhile isDig := by
 rw [ByteArray.data_extract, Array.toList_extract, List.extract_eq_take_drop]
 have h : (s.data.toList.drop i).takeWhile isDig <+: s.data.toList.drop i := List.takeWhile_prefix _
 rw [List.prefix_iff_eq_take] at h
 rw [show dEnd s i - i = ((s.data.toList.drop i).takeWhile isDig).length from by unfold dEnd; omega]
 exact h.symm
theorem atoi_nonneg (s : ByteArray) (i : Nat) (v : Int) (h : Lib.atoiAll (s.extract i (dEnd s i)).data.toList = .ok v) : 0 ≤ v := by
 rw [digits_list] at h
 have ha := List.all_takeWhile (p := isDig) (l := s.data.toList.drop i)
 cases hl : (s.data.toList.drop i).takeWhile isDig with
 | nil => rw [hl] at h; simp [Lib.atoiAll] at h
 | cons c r =>
  rw [hl] at h ha
  simp only [List.all_cons, Bool.and_eq_true, isDig, decide_eq_true_eq] at ha
  have hc : ¬ c.toNat = 45 := by omega
  simp only [Lib.atoiAll, hc, if_false, or_false, not_false_eq_true, true_and, false_and] at h
  split at h
  ·cases h
  ·cases h
  ·split at h
   ·cases h
   ·injection h with h; omega
def textN (s : ByteArray) (i : Nat) : Option (Nat × Nat) :=
 if okNum (s.extract i (dEnd s i)) = true ∧ dEnd s i < s.size ∧ bt s (dEnd s i : Nat) = 58 then
  match Lib.atoiAll (s.extract i (dEnd s i)).data.toList with
  | .ok v => if dEnd s i + 1 + v.toNat ≤ s.size then some (dEnd s i + 1, dEnd s i + 1 + v.toNat) else none
  | _ => none
 else none
def outT (s : ByteArray) : Option (Nat × Nat) → ByteArray × Int
 | some (a, b) => (s.extract a b, b)
 | none => (⟨#[]⟩, -1)
set_option maxHeartbeats 8000000 in
set_option maxRecDepth 100000 in
theorem encode_text_calls (s : ByteArray) (i : Nat) (hi : i ≤ s.size) (hs : s.size ≤ 140737488355328) (w : World) (hL : Laid w) :
  Calls Tryd.prog 71 #[.string s, .int .i64 i] w fun e w' => e = .returned (.tuple #[.string (outT s (textN s i)).1, .int .i64 (outT s (textN s i)).2]) ∧ Below w.heap.size w w' := by
 obtain ⟨r, hr⟩ : ∃ r, textN s i = r := ⟨_, rfl⟩
 rw [hr]
 have HL := Lib.hid hL
 have HR := Lib.hid hr
 clear hL hr
 go_enter Tryd.func71, Tryd.ntmps71
 go_wp2_with fail
 obtain ⟨n, hn⟩ : ∃ n, dEnd s i = n := ⟨_, rfl⟩
 have hnle := dEnd_le s i (by omega)
 have hnge := dEnd_ge s i
 refine (encode_digits_calls s i (by omega) hs w).mono ?_
 rintro e w1 ⟨rfl, hw1⟩
 rw [hn] at hnle hnge
 have HW1 := Lib.hid hw1
 clear hw1
 simp only [hn]
 have hdz : (s.extract i n).size = n - i := by rw [ByteArray.size_extract]; omega
 have hnn : ∀ v, Lib.atoiAll (s.extract i n).data.toList = .ok v → 0 ≤ v := by rw [← hn]; exact atoi_nonneg s i
 obtain ⟨d, hd⟩ : ∃ d, s.extract i n = d := ⟨_, rfl⟩
 rw [hd] at hdz hnn ⊢
 obtain ⟨ok, hok⟩ : ∃ ok, okNum d = ok := ⟨_, rfl⟩
 rw [hok]
 have HNN := Lib.hid hnn
 have v1 : (i : Int) + (d.size : Int) = (n : Int) := by omega
 have hdz2 : d.size ≤ 9223372036854775806 := by omega
 have hdz3 : d.size ≤ 281474976710656 := by omega
 clear hdz hnn
 cases ok
 ·obtain rfl : r = none := by rw [← HR.out]; simp [textN, hn, hd, hok]
  go_wp2_with fail
  go_ret2
  exact ⟨rfl, HW1.out.below⟩
 ·by_cases hn1 : n < s.size
  ·have q1 := eq_false (show ¬ ((s.size : Int) ≤ (n : Int)) from by omega)
   have q2 := eq_true (show (0 : Int) ≤ (n : Int) from by omega)
   have q3 := eq_true (show (n : Int) < (s.size : Int) from by omega)
   have q4 := eq_true hn1
   have q5 : ((s[n]'hn1).toNat : Int) = bt s (n : Int) := by simpa using bt_at s (n : Int) (by simpa using hn1)
   by_cases hn58 : bt s (n : Int) = 58
   ·have q6 : (((s[n]'hn1).toNat : Int) == 58) = true := by rw [q5, hn58]; rfl
    have q7 : (((s[n]'hn1).toNat : Int) != 58) = false := by rw [bne, q6]; rfl
    go_wp2_with fail
    cases hp : Lib.atoiAll d.data.toList with
    | ok v =>
     have hv0 := HNN.out v hp
     refine (Tryd.strconv_Atoi_ok d hdz2 v hp w1).mono ?_
     rintro e w2 ⟨rfl, hw2⟩
     have HW2 : Hid (Below w.heap.size w w2) := Lib.hid (by
      rcases hw2 with rfl | ⟨t, rfl⟩
      ·exact HW1.out.below
      ·exact bytes_below HW1.out.below HW1.out.below.size _ _)
     clear hw2
     obtain ⟨m, rfl⟩ := Int.eq_ofNat_of_zero_le hv0
     by_cases hfit : n + 1 + m ≤ s.size
     ·obtain rfl : r = some (n + 1, n + 1 + m) := by rw [← HR.out]; simp only [textN, hn, hd, hok, hn1, hn58, hp, and_self, if_true, Int.toNat_natCast, hfit]
      have f1 := eq_false (show ¬ ((s.size : Int) - (n : Int) - 1 < (m : Int)) from by omega)
      have f2 := eq_true (show (0 : Int) ≤ (n : Int) + 1 from by omega)
      have f3 := eq_true (show (n : Int) + 1 ≤ (n : Int) + 1 + (m : Int) from by omega)
      have f4 := eq_true (show (n : Int) + 1 + (m : Int) ≤ (s.size : Int) from by omega)
      have f5 : ((n : Int) + 1).toNat = n + 1 := by omega
      have f6 : ((n : Int) + 1 + (m : Int)).toNat = n + 1 + m := by omega
      go_wp2_with fail
      go_ret2
      exact ⟨rfl, HW2.out⟩
     ·obtain rfl : r = none := by rw [← HR.out]; simp only [textN, hn, hd, hok, hn1, hn58, hp, and_self, if_true, Int.toNat_natCast, hfit, if_false]
      have f1 := eq_true (show ((s.size : Int) - (n : Int) - 1 < (m : Int)) from by omega)
      go_wp2_with fail
      go_ret2
      exact ⟨rfl, HW2.out⟩
    | range =>
     obtain rfl : r = none := by rw [← HR.out]; simp only [textN, hn, hd, hok, hn1, hn58, hp, and_self, if_true]
     obtain ⟨tp, p, hv⟩ := (HL.out.below HW1.out.below).range
     refine (Tryd.strconv_Atoi_range_var d hdz3 hp tp p w1 hv).mono ?_
     rintro e w2 ⟨N, rfl, hN, hb2, hbl⟩
     clear hv hb2
     have HW2 : Hid (Below w.heap.size w w2) := Lib.hid (HW1.out.below.trans (hbl.mono HW1.out.below.size))
     clear hbl
     go_wp2_with fail
     go_ret2
     exact ⟨rfl, HW2.out⟩
    | _ =>
     obtain rfl : r = none := by rw [← HR.out]; simp only [textN, hn, hd, hok, hn1, hn58, hp, and_self, if_true]
     obtain ⟨tp, p, hv⟩ := (HL.out.below HW1.out.below).stx
     refine (Tryd.strconv_Atoi_syntax_var d hdz3 (hp.trans (by kernel_rfl)) tp p w1 hv).mono ?_
     rintro e w2 ⟨N, rfl, hN, hb2, hbl⟩
     clear hv hb2
     have HW2 : Hid (Below w.heap.size w w2) := Lib.hid (HW1.out.below.trans (hbl.mono HW1.out.below.size))
     clear hbl
     go_wp2_with fail
     go_ret2
     exact ⟨rfl, HW2.out⟩
   ·obtain rfl : r = none := by rw [← HR.out]; simp [textN, hn, hd, hn58]
    have q6 : (((s[n]'hn1).toNat : Int) == 58) = false := by rw [q5]; simpa using hn58
    have q7 : (((s[n]'hn1).toNat : Int) != 58) = true := by rw [bne, q6]; rfl
    go_wp2_with fail
    go_ret2
    exact ⟨rfl, HW1.out.below⟩
  ·obtain rfl : r = none := by rw [← HR.out]; simp [textN, hn, hd, hn1]
   have q1 := eq_true (show ((s.size : Int) ≤ (n : Int)) from by omega)
   go_wp2_with fail
   go_ret2
   exact ⟨rfl, HW1.out.below⟩
end Go.Proofs.YtfpopmojlmpopaaDoor.H

end
section
namespace Go.Proofs.YtfpopmojlmpopaaDoor.G
open Go.RowKit Go.Proofs.YtfpopmojlmpopaaDoorW.PrintWords Go.Proofs.YtfpopmojlmpopaaDoorW.PrintLast Go.Proofs.YtfpopmojlmpopaaDoorW.PrintMore
attribute [local go_sem] max2_int min2_int max_two min_two max_three min_three max_four min_four
set_option linter.unusedVariables false
set_option linter.unusedSimpArgs false
mutual
def frame_lineError.l0 : Nat → List ByteArray → List ByteArray → Int → Int → Option (Int)
 | 0, _, _, _, _ => none
 | k + 1, x0, x11, x12, x13 => if x13 < x12 then (if 0 ≤ x13 then (if x13 < (x11.length : Int) then (if ((rdOf ByteArray.empty x11 x13).size : Int) > 160 then (some 6) else (frame_lineError.l0 k x0 x11 x12 (wrap64 (x13 + 1)))) else (none)) else (none)) else (frame_lineError.l1 k x0 (x0.length : Int) 0)
def frame_lineError.l1 : Nat → List ByteArray → Int → Int → Option (Int)
 | 0, _, _, _ => none
 | k + 1, x21, x22, x23 => if x23 < x22 then (if 0 ≤ x23 then (if x23 < (x21.length : Int) then (frame_lineError.l2 k (rdOf ByteArray.empty x21 x23) x21 x22 x23 ((rdOf ByteArray.empty x21 x23).size : Int) 0) else (none)) else (none)) else (some 0)
def frame_lineError.l2 : Nat → ByteArray → List ByteArray → Int → Int → Int → Int → Option (Int)
 | 0, _, _, _, _, _, _ => none
 | k + 1, x6, x21, x22, x23, x28, x29 => if x29 < x28 then (if 0 ≤ x29 then (if x29 < (x6.size : Int) then (if (bt x6 x29) < 32 then (some 2) else (if (bt x6 x29) > 126 then (some 2) else (frame_lineError.l2 k x6 x21 x22 x23 x28 (wrap64 (x29 + 1))))) else (none)) else (none)) else (frame_lineError.l1 k x21 x22 (wrap64 (x23 + 1)))
end
def frame_lineError.f (k : Nat) (l0 : List ByteArray) : Option (Int) := if (l0.length : Int) > 4096 then (some 6) else (frame_lineError.l0 k l0 l0 (l0.length : Int) 0)
set_option maxHeartbeats 8000000 in
set_option maxRecDepth 100000 in
theorem frame_lineError.calls (k : Nat) (A0 : Option Addr) (c0 : Nat) (l0 : List ByteArray) (r : Int) (w : World) (hr0 : Kd.C Kd.string w A0 l0.length l0) (hc0 : l0.length ≤ c0) (h : frame_lineError.f k l0 = some r) :
  Calls Tryd.prog 43 #[.slice A0 l0.length c0] w fun e w' => e = .returned (.int .i64 r) ∧ Drawn0 w w' := by
 have HR0 := Aside0.mk hr0
 have HC0 := Aside0.mk hc0
 clear hr0 hc0
 have H : (if (l0.length : Int) > 4096 then (some 6) else (frame_lineError.l0 k l0 l0 (l0.length : Int) 0)) = some r := h
 clear h
 by_cases c2 : (l0.length : Int) > 4096
 ·rw [if_pos c2] at H
  have c2b0 : decide (4096 < (l0.length : Int)) = true := decide_eq_true c2
  have c2b1 : decide (4096 < l0.length) = true := decide_eq_true (by omega)
  clear c2
  obtain rfl := Option.some.inj H
  go_enter Tryd.func43, Tryd.ntmps43
  go_wp2
  go_ret
  exact ⟨by first | rfl | (simp; done) | (simp [*]; done), by repeat (first | exact Drawn0.refl _ | apply Drawn0.step)⟩
 ·rw [if_neg c2] at H
  have c2b0 : decide (4096 < (l0.length : Int)) = false := decide_eq_false c2
  have c2b1 : decide (4096 < l0.length) = false := decide_eq_false (by omega)
  clear c2
  have H' := Aside0.mk H
  clear H
  go_enter Tryd.func43, Tryd.ntmps43
  go_wp2
  go_loopg [13] k (fun kq v13 w' => ∃ (x13_1 : Int), v13 = .int .i64 x13_1 ∧ Aside0 (frame_lineError.l0 kq l0 l0 (l0.length : Int) x13_1 = some r) ∧ Aside0 (kq ≤ k) ∧ Drawn0 w w')
  case atStart => exact ⟨(0), (by first | rfl | (simp; done) | (simp [*]; done)), H', ⟨Nat.le_refl _⟩, by repeat (first | exact Drawn0.refl _ | apply Drawn0.step)⟩
  case round =>
   clear H'
   try clear c2
   try clear c2b0
   try clear c2b1
   try clear p2
   obtain ⟨x13_1, rfl, HA, HK1, ⟨m1, rfl⟩⟩ := hrel
   cases gk with
   | zero => exact absurd HA.out (by simp [frame_lineError.l0])
   | succ k1 =>
    have H := HA.out
    clear HA
    simp only [frame_lineError.l0] at H
    by_cases c3 : x13_1 < (l0.length : Int)
    ·rw [if_pos c3] at H
     have c3b0 : decide (x13_1 < (l0.length : Int)) = true := decide_eq_true c3
     clear c3
     by_cases c4 : 0 ≤ x13_1
     ·rw [if_pos c4] at H
      have c4b0 : decide (0 ≤ x13_1) = true := decide_eq_true c4
      clear c4
      by_cases c5 : x13_1 < (l0.length : Int)
      ·rw [if_pos c5] at H
       have c5b0 : decide (x13_1 < (l0.length : Int)) = true := decide_eq_true c5
       clear c5
       by_cases c6 : ((rdOf ByteArray.empty l0 x13_1).size : Int) > 160
       ·rw [if_pos c6] at H
        have c6b0 : decide (160 < ((rdOf ByteArray.empty l0 x13_1).size : Int)) = true := decide_eq_true c6
        have c6b1 : decide (160 < (rdOf ByteArray.empty l0 x13_1).size) = true := decide_eq_true (by omega)
        clear c6
        obtain rfl := Option.some.inj H
        have p158 : 0 ≤ (x13_1 : Int) := of_decide_eq_true (by first | (with_reducible assumption) | assumption)
        have q158 : x13_1 < (l0.length : Int) := of_decide_eq_true (by first | (with_reducible assumption) | assumption)
        obtain ⟨ad158, e158, hx158_0⟩ := Kd.at_string HR0.out x13_1 p158 q158
        cases e158
        replace p158 := eq_true p158
        replace q158 := eq_true q158
        go_wp2
        go_ret
        exact ⟨by first | rfl | (simp; done) | (simp [*]; done), by repeat (first | exact Drawn0.refl _ | apply Drawn0.step)⟩
       ·rw [if_neg c6] at H
        have c6b0 : decide (160 < ((rdOf ByteArray.empty l0 x13_1).size : Int)) = false := decide_eq_false c6
        have c6b1 : decide (160 < (rdOf ByteArray.empty l0 x13_1).size) = false := decide_eq_false (by omega)
        clear c6
        have H' := Aside0.mk H
        clear H
        have p158 : 0 ≤ (x13_1 : Int) := of_decide_eq_true (by first | (with_reducible assumption) | assumption)
        have q158 : x13_1 < (l0.length : Int) := of_decide_eq_true (by first | (with_reducible assumption) | assumption)
        obtain ⟨ad158, e158, hx158_0⟩ := Kd.at_string HR0.out x13_1 p158 q158
        cases e158
        replace p158 := eq_true p158
        replace q158 := eq_true q158
        go_wp2
        go_roundg k1
        case measure => have := HK1.out; omega
        case rel => exact ⟨(wrap64 (x13_1 + 1)), (by first | rfl | (simp; done) | (simp [*]; done)), H', ⟨by have := HK1.out; omega⟩, by repeat (first | exact Drawn0.refl _ | apply Drawn0.step)⟩
      ·rw [if_neg c5] at H
       exact absurd H (by simp)
     ·rw [if_neg c4] at H
      exact absurd H (by simp)
    ·rw [if_neg c3] at H
     have c3b0 : decide (x13_1 < (l0.length : Int)) = false := decide_eq_false c3
     clear c3
     have H' := Aside0.mk H
     clear H
     go_wp2
     go_loopg [23] k1 (fun kq v23 w' => ∃ (x23_2 : Int), v23 = .int .i64 x23_2 ∧ Aside0 (frame_lineError.l1 kq l0 (l0.length : Int) x23_2 = some r) ∧ Aside0 (kq ≤ k1) ∧ Drawn0 w w')
     case atStart => exact ⟨(0), (by first | rfl | (simp; done) | (simp [*]; done)), H', ⟨Nat.le_refl _⟩, by repeat (first | exact Drawn0.refl _ | apply Drawn0.step)⟩
     case round =>
      clear H'
      try clear p1
      try clear q1
      try clear hx1
      try clear c2
      try clear c2b0
      try clear c2b1
      try clear p2
      try clear c3
      try clear c3b0
      try clear c4
      try clear c4b0
      try clear c5
      try clear c5b0
      try clear c6
      try clear c6b0
      try clear c6b1
      try clear p6
      try clear hx158_0
      try clear p158
      try clear p2
      try clear q158
      obtain ⟨x23_2, rfl, HA, HK2, ⟨m2, rfl⟩⟩ := hrel
      cases gk with
      | zero => exact absurd HA.out (by simp [frame_lineError.l1])
      | succ k2 =>
       have H := HA.out
       clear HA
       simp only [frame_lineError.l1] at H
       by_cases c7 : x23_2 < (l0.length : Int)
       ·rw [if_pos c7] at H
        have c7b0 : decide (x23_2 < (l0.length : Int)) = true := decide_eq_true c7
        clear c7
        by_cases c8 : 0 ≤ x23_2
        ·rw [if_pos c8] at H
         have c8b0 : decide (0 ≤ x23_2) = true := decide_eq_true c8
         clear c8
         by_cases c9 : x23_2 < (l0.length : Int)
         ·rw [if_pos c9] at H
          have c9b0 : decide (x23_2 < (l0.length : Int)) = true := decide_eq_true c9
          clear c9
          have H' := Aside0.mk H
          clear H
          have p159 : 0 ≤ (x23_2 : Int) := of_decide_eq_true (by first | (with_reducible assumption) | assumption)
          have q159 : x23_2 < (l0.length : Int) := of_decide_eq_true (by first | (with_reducible assumption) | assumption)
          obtain ⟨ad159, e159, hx159_0⟩ := Kd.at_string HR0.out x23_2 p159 q159
          cases e159
          replace p159 := eq_true p159
          replace q159 := eq_true q159
          go_wp2
          go_loopg [29] k2 (fun kq v29 w' => ∃ (x29_3 : Int), v29 = .int .i64 x29_3 ∧ Aside0 (frame_lineError.l2 kq (rdOf ByteArray.empty l0 x23_2) l0 (l0.length : Int) x23_2 ((rdOf ByteArray.empty l0 x23_2).size : Int) x29_3 = some r) ∧ Aside0 (kq ≤ k2) ∧ Drawn0 w w')
          case atStart => exact ⟨(0), (by first | rfl | (simp; done) | (simp [*]; done)), H', ⟨Nat.le_refl _⟩, by repeat (first | exact Drawn0.refl _ | apply Drawn0.step)⟩
          case round =>
           clear H'
           try clear p1
           try clear q1
           try clear hx1
           try clear c2
           try clear c2b0
           try clear c2b1
           try clear p2
           try clear c3
           try clear c3b0
           try clear c4
           try clear c4b0
           try clear c5
           try clear c5b0
           try clear c6
           try clear c6b0
           try clear c6b1
           try clear p6
           try clear c7
           try clear c7b0
           try clear c8
           try clear c8b0
           try clear c9
           try clear c9b0
           try clear hx158_0
           try clear hx159_0
           try clear p1
           try clear p158
           try clear p159
           try clear p2
           try clear p6
           try clear q1
           try clear q158
           try clear q159
           obtain ⟨x29_3, rfl, HA, HK3, ⟨m3, rfl⟩⟩ := hrel
           cases gk with
           | zero => exact absurd HA.out (by simp [frame_lineError.l2])
           | succ k3 =>
            have H := HA.out
            clear HA
            simp only [frame_lineError.l2] at H
            by_cases c10 : x29_3 < ((rdOf ByteArray.empty l0 x23_2).size : Int)
            ·rw [if_pos c10] at H
             have c10b0 : decide (x29_3 < ((rdOf ByteArray.empty l0 x23_2).size : Int)) = true := decide_eq_true c10
             clear c10
             by_cases c11 : 0 ≤ x29_3
             ·rw [if_pos c11] at H
              have c11b0 : decide (0 ≤ x29_3) = true := decide_eq_true c11
              clear c11
              by_cases c12 : x29_3 < ((rdOf ByteArray.empty l0 x23_2).size : Int)
              ·rw [if_pos c12] at H
               have c12b0 : decide (x29_3 < ((rdOf ByteArray.empty l0 x23_2).size : Int)) = true := decide_eq_true c12
               clear c12
               by_cases c14 : (bt (rdOf ByteArray.empty l0 x23_2) x29_3) < 32
               ·rw [if_pos c14] at H
                have c14b0 : decide ((bt (rdOf ByteArray.empty l0 x23_2) x29_3) < 32) = true := decide_eq_true c14
                clear c14
                obtain rfl := Option.some.inj H
                have p13 : 0 ≤ (x29_3 : Int) := of_decide_eq_true (by first | (with_reducible assumption) | assumption)
                have q13 : x29_3 < ((rdOf ByteArray.empty l0 x23_2).size : Int) := of_decide_eq_true (by first | (with_reducible assumption) | assumption)
                have hx13 := bt_at (rdOf ByteArray.empty l0 x23_2) x29_3
                replace p13 := eq_true p13
                replace q13 := eq_true q13
                go_wp2
                go_ret
                exact ⟨by first | rfl | (simp; done) | (simp [*]; done), by repeat (first | exact Drawn0.refl _ | apply Drawn0.step)⟩
               ·rw [if_neg c14] at H
                have c14b0 : decide ((bt (rdOf ByteArray.empty l0 x23_2) x29_3) < 32) = false := decide_eq_false c14
                clear c14
                by_cases c16 : (bt (rdOf ByteArray.empty l0 x23_2) x29_3) > 126
                ·rw [if_pos c16] at H
                 have c16b0 : decide (126 < (bt (rdOf ByteArray.empty l0 x23_2) x29_3)) = true := decide_eq_true c16
                 clear c16
                 obtain rfl := Option.some.inj H
                 have p13 : 0 ≤ (x29_3 : Int) := of_decide_eq_true (by first | (with_reducible assumption) | assumption)
                 have q13 : x29_3 < ((rdOf ByteArray.empty l0 x23_2).size : Int) := of_decide_eq_true (by first | (with_reducible assumption) | assumption)
                 have hx13 := bt_at (rdOf ByteArray.empty l0 x23_2) x29_3
                 replace p13 := eq_true p13
                 replace q13 := eq_true q13
                 have p15 : 0 ≤ (x29_3 : Int) := of_decide_eq_true (by first | (with_reducible assumption) | assumption)
                 have q15 : x29_3 < ((rdOf ByteArray.empty l0 x23_2).size : Int) := of_decide_eq_true (by first | (with_reducible assumption) | assumption)
                 have hx15 := bt_at (rdOf ByteArray.empty l0 x23_2) x29_3
                 replace p15 := eq_true p15
                 replace q15 := eq_true q15
                 go_wp2
                 go_ret
                 exact ⟨by first | rfl | (simp; done) | (simp [*]; done), by repeat (first | exact Drawn0.refl _ | apply Drawn0.step)⟩
                ·rw [if_neg c16] at H
                 have c16b0 : decide (126 < (bt (rdOf ByteArray.empty l0 x23_2) x29_3)) = false := decide_eq_false c16
                 clear c16
                 have H' := Aside0.mk H
                 clear H
                 have p13 : 0 ≤ (x29_3 : Int) := of_decide_eq_true (by first | (with_reducible assumption) | assumption)
                 have q13 : x29_3 < ((rdOf ByteArray.empty l0 x23_2).size : Int) := of_decide_eq_true (by first | (with_reducible assumption) | assumption)
                 have hx13 := bt_at (rdOf ByteArray.empty l0 x23_2) x29_3
                 replace p13 := eq_true p13
                 replace q13 := eq_true q13
                 have p15 : 0 ≤ (x29_3 : Int) := of_decide_eq_true (by first | (with_reducible assumption) | assumption)
                 have q15 : x29_3 < ((rdOf ByteArray.empty l0 x23_2).size : Int) := of_decide_eq_true (by first | (with_reducible assumption) | assumption)
                 have hx15 := bt_at (rdOf ByteArray.empty l0 x23_2) x29_3
                 replace p15 := eq_true p15
                 replace q15 := eq_true q15
                 go_wp2
                 go_roundg k3
                 case measure => have := HK1.out; have := HK2.out; have := HK3.out; omega
                 case rel => exact ⟨(wrap64 (x29_3 + 1)), (by first | rfl | (simp; done) | (simp [*]; done)), H', ⟨by have := HK1.out; have := HK2.out; have := HK3.out; omega⟩, by repeat (first | exact Drawn0.refl _ | apply Drawn0.step)⟩
              ·rw [if_neg c12] at H
               exact absurd H (by simp)
             ·rw [if_neg c11] at H
              exact absurd H (by simp)
            ·rw [if_neg c10] at H
             have c10b0 : decide (x29_3 < ((rdOf ByteArray.empty l0 x23_2).size : Int)) = false := decide_eq_false c10
             clear c10
             have H' := Aside0.mk H
             clear H
             go_wp2
             go_roundg k3
             case measure => have := HK1.out; have := HK2.out; have := HK3.out; omega
             case rel => exact ⟨(wrap64 (x23_2 + 1)), (by first | rfl | (simp; done) | (simp [*]; done)), H', ⟨by have := HK1.out; have := HK2.out; have := HK3.out; omega⟩, by repeat (first | exact Drawn0.refl _ | apply Drawn0.step)⟩
         ·rw [if_neg c9] at H
          exact absurd H (by simp)
        ·rw [if_neg c8] at H
         exact absurd H (by simp)
       ·rw [if_neg c7] at H
        have c7b0 : decide (x23_2 < (l0.length : Int)) = false := decide_eq_false c7
        clear c7
        obtain rfl := Option.some.inj H
        go_wp2
        go_ret
        exact ⟨by first | rfl | (simp; done) | (simp [*]; done), by repeat (first | exact Drawn0.refl _ | apply Drawn0.step)⟩
mutual
def frame_possible.l0 : Nat → List (S52) → List (S52) → Int → Int → Option (Bool)
 | 0, _, _, _, _ => none
 | k + 1, x0, x8, x9, x10 => if x10 < x9 then (if 0 ≤ x10 then (if x10 < (x8.length : Int) then (if ((rd_T52 x8 x10).f0) < 0 then (frame_possible.j1 k x0 x10 x8 x9 x10 true ((rd_T52 x8 x10).f0) ((rd_T52 x8 x10).f1) ((rd_T52 x8 x10).f2)) else (if ((rd_T52 x8 x10).f1) < 0 then (frame_possible.j1 k x0 x10 x8 x9 x10 true ((rd_T52 x8 x10).f0) ((rd_T52 x8 x10).f1) ((rd_T52 x8 x10).f2)) else (if ((rd_T52 x8 x10).f1) > 4096 then (frame_possible.j1 k x0 x10 x8 x9 x10 true ((rd_T52 x8 x10).f0) ((rd_T52 x8 x10).f1) ((rd_T52 x8 x10).f2)) else (if ((rd_T52 x8 x10).f1) = 0 then (if (((rd_T52 x8 x10).f2).length : Int) = 0 then (frame_possible.j1 k x0 x10 x8 x9 x10 true ((rd_T52 x8 x10).f0) ((rd_T52 x8 x10).f1) ((rd_T52 x8 x10).f2)) else ((frame_lineError.f k ((rd_T52 x8 x10).f2)).bind fun t162 => (frame_possible.j1 k x0 x10 x8 x9 x10 (t162 != 0) ((rd_T52 x8 x10).f0) ((rd_T52 x8 x10).f1) ((rd_T52 x8 x10).f2)))) else ((frame_lineError.f k ((rd_T52 x8 x10).f2)).bind fun t163 => (frame_possible.j1 k x0 x10 x8 x9 x10 (t163 != 0) ((rd_T52 x8 x10).f0) ((rd_T52 x8 x10).f1) ((rd_T52 x8 x10).f2))))))) else (none)) else (none)) else (some true)
def frame_possible.j1 : Nat → List (S52) → Int → List (S52) → Int → Int → Bool → Int → Int → List ByteArray → Option (Bool)
 | 0, _, _, _, _, _, _, _, _, _ => none
 | k + 1, x0, x3, x8, x9, x10, x44, x162000, x162001, x162002 => if x44 = true then (some false) else (if x3 > 0 then (if 0 ≤ (wrap64 (x3 - 1)) then (if (wrap64 (x3 - 1)) < (x0.length : Int) then (if (wrap64 (x162000 - ((rd_T52 x0 (wrap64 (x3 - 1))).f1))) ≤ ((rd_T52 x0 (wrap64 (x3 - 1))).f0) then (some false) else (frame_possible.l0 k x0 x8 x9 (wrap64 (x10 + 1)))) else (none)) else (none)) else (frame_possible.l0 k x0 x8 x9 (wrap64 (x10 + 1))))
end
def frame_possible.f (k : Nat) (l0 : List (S52)) : Option (Bool) := if (l0.length : Int) > 4096 then (some false) else (frame_possible.l0 k l0 l0 (l0.length : Int) 0)
set_option maxHeartbeats 8000000 in
set_option maxRecDepth 100000 in
theorem frame_possible.calls (k : Nat) (A0 : Option Addr) (c0 : Nat) (l0 : List (S52)) (r : Bool) (w : World) (hr0 : Kd.C k52 w A0 l0.length l0) (hc0 : l0.length ≤ c0) (h : frame_possible.f k l0 = some r) :
  Calls Tryd.prog 44 #[.slice A0 l0.length c0] w fun e w' => e = .returned (.bool r) ∧ Below w.heap.size w w' := by
 have hu52 := Tryd.underlying52
 have HR0 := Aside0.mk hr0
 have HC0 := Aside0.mk hc0
 clear hr0 hc0
 have HB := Aside0.mk (Below.refl w.heap.size w)
 have H : (if (l0.length : Int) > 4096 then (some false) else (frame_possible.l0 k l0 l0 (l0.length : Int) 0)) = some r := h
 clear h
 by_cases c2 : (l0.length : Int) > 4096
 ·rw [if_pos c2] at H
  have c2b0 : decide (4096 < (l0.length : Int)) = true := decide_eq_true c2
  have c2b1 : decide (4096 < l0.length) = true := decide_eq_true (by omega)
  clear c2
  obtain rfl := Option.some.inj H
  go_enter Tryd.func44, Tryd.ntmps44
  go_wp2
  repeat (go_quiet (fail); try go_wp2)
  go_ret
  exact ⟨by first | rfl | (simp [errW_none, errW_some] <;> rfl) | (simp [*, errW_none, errW_some] <;> rfl), by repeat (first | (with_reducible first | exact HB.out | apply below_alloc | apply pw_below_drewN | apply below_drew1) | exact HB.out)⟩
 ·rw [if_neg c2] at H
  have c2b0 : decide (4096 < (l0.length : Int)) = false := decide_eq_false c2
  have c2b1 : decide (4096 < l0.length) = false := decide_eq_false (by omega)
  clear c2
  have H' := Aside0.mk H
  clear H
  go_enter Tryd.func44, Tryd.ntmps44
  go_wp2
  repeat (go_quiet (fail); try go_wp2)
  go_loopg [10] k (fun kq v10 w' => ∃ (x10_1 : Int), v10 = .int .i64 x10_1 ∧ Aside0 (frame_possible.l0 kq l0 l0 (l0.length : Int) x10_1 = some r) ∧ Aside0 (kq ≤ k) ∧ Aside0 (Below w.heap.size w w'))
  case atStart => exact ⟨(0), (by first | rfl | (simp; done) | (simp [*]; done)), H', ⟨Nat.le_refl _⟩, ⟨by repeat (first | (with_reducible first | exact HB.out | apply below_alloc | apply pw_below_drewN | apply below_drew1) | exact HB.out)⟩⟩
  case round =>
   clear H'
   try clear c2
   try clear c2b0
   try clear c2b1
   try clear p2
   obtain ⟨x10_1, rfl, HA, HK1, HB⟩ := hrel
   cases gk with
   | zero => exact absurd HA.out (by simp [frame_possible.l0])
   | succ k1 =>
    have H := HA.out
    clear HA
    simp only [frame_possible.l0] at H
    by_cases c3 : x10_1 < (l0.length : Int)
    ·rw [if_pos c3] at H
     have c3b0 : decide (x10_1 < (l0.length : Int)) = true := decide_eq_true c3
     clear c3
     by_cases c4 : 0 ≤ x10_1
     ·rw [if_pos c4] at H
      have c4b0 : decide (0 ≤ x10_1) = true := decide_eq_true c4
      clear c4
      by_cases c5 : x10_1 < (l0.length : Int)
      ·rw [if_pos c5] at H
       have c5b0 : decide (x10_1 < (l0.length : Int)) = true := decide_eq_true c5
       clear c5
       have HC6 := Aside0.mk H
       clear H
       have p160 : 0 ≤ (x10_1 : Int) := of_decide_eq_true (by first | (with_reducible assumption) | assumption)
       have q160 : x10_1 < (l0.length : Int) := of_decide_eq_true (by first | (with_reducible assumption) | assumption)
       obtain ⟨ad160, A160_2, c160_2, e160, hx160_0, hx160_1, hx160_2, hl160_2, hi160_2⟩ := at_T52 HR0.out x10_1 p160 q160
       cases e160
       replace hx160_0 := (HB.out.cell (World.block_lt_of_cell? w _ hx160_0)).trans hx160_0
       replace hx160_1 := (HB.out.cell (World.block_lt_of_cell? w _ hx160_1)).trans hx160_1
       replace hx160_2 := (HB.out.cell (World.block_lt_of_cell? w _ hx160_2)).trans hx160_2
       have HR160_2 := Aside0.mk hi160_2
       have HC160_2 := Aside0.mk hl160_2
       clear hi160_2 hl160_2
       replace p160 := eq_true p160
       replace q160 := eq_true q160
       go_upto_region 6 with (first | ((with_reducible refine gate_dst (N := 4) rfl ?_); (try (refine gate_guard (by rfl) ?_; dsimp only)); refine box_event ?hg (N := 4) ?hd (cs := #[.int .i64 0, .int .i64 0, .slice none 0 0]) (t := 52) ?hr ?_; (case hd => rfl); (case hg => rfl); (case hr => first | (go_simp; done) | (go_simp; rfl)); intro gb161 hg w7 hbox hb; have n0_ := Aside0.mk (below_step (by repeat (first | (with_reducible first | exact HB.out | apply below_alloc | apply pw_below_drewN | apply below_drew1) | exact HB.out)) hb); have n1_ := Aside0.mk (hbox); have n2_ := Aside0.mk ((by rw [hg]; exact (below_size (by repeat (first | (with_reducible first | exact HB.out | apply below_alloc | apply pw_below_drewN | apply below_drew1) | exact HB.out))) : w.heap.size ≤ gb161)); have n3_ := Aside0.mk ((by rw [hg]; exact (below_size (by repeat (first | (with_reducible first | exact HB.out | apply below_alloc | apply pw_below_drewN | apply below_drew1) | exact HB.out))) : w.heap.size ≤ gb161)); clear HB; have HB := n0_; have BK161 := n1_; have GW161 := n2_; have GE161 := n3_; clear n0_ n1_ n2_ n3_; clear hb hbox hg; have hcz8_0 : w7.cell? ⟨gb161, 0, none⟩ = some (.int .i64 0) := (blk_cell BK161.out 0).trans rfl; have hcz8_1 : w7.cell? ⟨gb161, 1, none⟩ = some (.int .i64 0) := (blk_cell BK161.out 1).trans rfl; have hcz8_2 : w7.cell? ⟨gb161, 2, none⟩ = some (.slice none 0 0) := (blk_cell BK161.out 2).trans rfl; have hfz8_0 := blk_frozen BK161.out 0; have hfz8_1 := blk_frozen BK161.out 1; have hfz8_2 := blk_frozen BK161.out 2))
       repeat (go_quiet (first | ((with_reducible refine gate_dst (N := 4) rfl ?_); (try (refine gate_guard (by rfl) ?_; dsimp only)); refine box_event ?hg (N := 4) ?hd (cs := #[.int .i64 0, .int .i64 0, .slice none 0 0]) (t := 52) ?hr ?_; (case hd => rfl); (case hg => rfl); (case hr => first | (go_simp; done) | (go_simp; rfl)); intro gb161 hg w7 hbox hb; have n0_ := Aside0.mk (below_step (by repeat (first | (with_reducible first | exact HB.out | apply below_alloc | apply pw_below_drewN | apply below_drew1) | exact HB.out)) hb); have n1_ := Aside0.mk (hbox); have n2_ := Aside0.mk ((by rw [hg]; exact (below_size (by repeat (first | (with_reducible first | exact HB.out | apply below_alloc | apply pw_below_drewN | apply below_drew1) | exact HB.out))) : w.heap.size ≤ gb161)); have n3_ := Aside0.mk ((by rw [hg]; exact (below_size (by repeat (first | (with_reducible first | exact HB.out | apply below_alloc | apply pw_below_drewN | apply below_drew1) | exact HB.out))) : w.heap.size ≤ gb161)); clear HB; have HB := n0_; have BK161 := n1_; have GW161 := n2_; have GE161 := n3_; clear n0_ n1_ n2_ n3_; clear hb hbox hg; have hcz8_0 : w7.cell? ⟨gb161, 0, none⟩ = some (.int .i64 0) := (blk_cell BK161.out 0).trans rfl; have hcz8_1 : w7.cell? ⟨gb161, 1, none⟩ = some (.int .i64 0) := (blk_cell BK161.out 1).trans rfl; have hcz8_2 : w7.cell? ⟨gb161, 2, none⟩ = some (.slice none 0 0) := (blk_cell BK161.out 2).trans rfl; have hfz8_0 := blk_frozen BK161.out 0; have hfz8_1 := blk_frozen BK161.out 1; have hfz8_2 := blk_frozen BK161.out 2)); go_upto_region 6 with (first | ((with_reducible refine gate_dst (N := 4) rfl ?_); (try (refine gate_guard (by rfl) ?_; dsimp only)); refine box_event ?hg (N := 4) ?hd (cs := #[.int .i64 0, .int .i64 0, .slice none 0 0]) (t := 52) ?hr ?_; (case hd => rfl); (case hg => rfl); (case hr => first | (go_simp; done) | (go_simp; rfl)); intro gb161 hg w7 hbox hb; have n0_ := Aside0.mk (below_step (by repeat (first | (with_reducible first | exact HB.out | apply below_alloc | apply pw_below_drewN | apply below_drew1) | exact HB.out)) hb); have n1_ := Aside0.mk (hbox); have n2_ := Aside0.mk ((by rw [hg]; exact (below_size (by repeat (first | (with_reducible first | exact HB.out | apply below_alloc | apply pw_below_drewN | apply below_drew1) | exact HB.out))) : w.heap.size ≤ gb161)); have n3_ := Aside0.mk ((by rw [hg]; exact (below_size (by repeat (first | (with_reducible first | exact HB.out | apply below_alloc | apply pw_below_drewN | apply below_drew1) | exact HB.out))) : w.heap.size ≤ gb161)); clear HB; have HB := n0_; have BK161 := n1_; have GW161 := n2_; have GE161 := n3_; clear n0_ n1_ n2_ n3_; clear hb hbox hg; have hcz8_0 : w7.cell? ⟨gb161, 0, none⟩ = some (.int .i64 0) := (blk_cell BK161.out 0).trans rfl; have hcz8_1 : w7.cell? ⟨gb161, 1, none⟩ = some (.int .i64 0) := (blk_cell BK161.out 1).trans rfl; have hcz8_2 : w7.cell? ⟨gb161, 2, none⟩ = some (.slice none 0 0) := (blk_cell BK161.out 2).trans rfl; have hfz8_0 := blk_frozen BK161.out 0; have hfz8_1 := blk_frozen BK161.out 1; have hfz8_2 := blk_frozen BK161.out 2)))
       (try simp only [Act.put, sA_, sB_, sC_])
       go_cut [44] (fun v44 wc => ∃ (kq : Nat) (x44_5 : Bool), v44 = .bool x44_5 ∧ Aside0 (frame_possible.j1 kq l0 x10_1 l0 (l0.length : Int) x10_1 x44_5 ((rd_T52 l0 x10_1).f0) ((rd_T52 l0 x10_1).f1) ((rd_T52 l0 x10_1).f2) = some r) ∧ Aside0 (kq ≤ k1) ∧ Aside0 (wc.heap[gb161]? = some (.cells #[.int .i64 ((rd_T52 l0 x10_1).f0), .int .i64 ((rd_T52 l0 x10_1).f1), (.slice A160_2 ((rd_T52 l0 x10_1).f2).length c160_2)] 52 (0, 0))) ∧ Aside0 (Below w.heap.size w wc))
       case first =>
        have H := HC6.out
        clear HC6
        by_cases c9 : ((rd_T52 l0 x10_1).f0) < 0
        ·rw [if_pos c9] at H
         have c9b0 : decide (((rd_T52 l0 x10_1).f0) < 0) = true := decide_eq_true c9
         clear c9
         (first | rw [c9b0] | (simp only [i64_w, i32_w]; rw [c9b0]) | skip)
         have H' := Aside0.mk H
         clear H
         have hcz10_0 : w7.cell? ⟨gb161, 0, none⟩ = some (.int .i64 0) := (blk_cell BK161.out 0).trans rfl
         have hcz10_1 : w7.cell? ⟨gb161, 1, none⟩ = some (.int .i64 0) := (blk_cell BK161.out 1).trans rfl
         have hcz10_2 : w7.cell? ⟨gb161, 2, none⟩ = some (.slice none 0 0) := (blk_cell BK161.out 2).trans rfl
         have hfz10_0 := blk_frozen BK161.out 0
         have hfz10_1 := blk_frozen BK161.out 1
         have hfz10_2 := blk_frozen BK161.out 2
         go_wp2
         repeat (go_quiet (fail); try go_wp2)
         go_meet
         case rel => exact ⟨_, (true), (by first | rfl | (simp; done) | (simp [*]; done)), H', ⟨by have := HK1.out; first | omega | exact Nat.le_refl _⟩, ⟨by (with_reducible repeat (first | refine blk_drewN ?_ _ | refine blk_drew ?_ | refine blk_alloc ?_ _)); refine blk_put (cs := #[.int .i64 ((rd_T52 l0 x10_1).f0), .int .i64 ((rd_T52 l0 x10_1).f1), .slice none 0 0]) ?_ 2 _ rfl; (with_reducible repeat (first | refine blk_drewN ?_ _ | refine blk_drew ?_ | refine blk_alloc ?_ _)); refine blk_put (cs := #[.int .i64 ((rd_T52 l0 x10_1).f0), .int .i64 0, .slice none 0 0]) ?_ 1 _ rfl; (with_reducible repeat (first | refine blk_drewN ?_ _ | refine blk_drew ?_ | refine blk_alloc ?_ _)); refine blk_put (cs := #[.int .i64 0, .int .i64 0, .slice none 0 0]) ?_ 0 _ rfl; (with_reducible repeat (first | refine blk_drewN ?_ _ | refine blk_drew ?_ | refine blk_alloc ?_ _)); exact BK161.out⟩, ⟨by repeat (first | (with_reducible first | exact HB.out | apply below_alloc | apply pw_below_drewN | apply below_drew1 | refine below_set ?_ GE161.out) | exact HB.out)⟩⟩
        ·rw [if_neg c9] at H
         have c9b0 : decide (((rd_T52 l0 x10_1).f0) < 0) = false := decide_eq_false c9
         clear c9
         (first | rw [c9b0] | (simp only [i64_w, i32_w]; rw [c9b0]) | skip)
         by_cases c11 : ((rd_T52 l0 x10_1).f1) < 0
         ·rw [if_pos c11] at H
          have c11b0 : decide (((rd_T52 l0 x10_1).f1) < 0) = true := decide_eq_true c11
          clear c11
          have H' := Aside0.mk H
          clear H
          have hcz12_0 : w7.cell? ⟨gb161, 0, none⟩ = some (.int .i64 0) := (blk_cell BK161.out 0).trans rfl
          have hcz12_1 : w7.cell? ⟨gb161, 1, none⟩ = some (.int .i64 0) := (blk_cell BK161.out 1).trans rfl
          have hcz12_2 : w7.cell? ⟨gb161, 2, none⟩ = some (.slice none 0 0) := (blk_cell BK161.out 2).trans rfl
          have hfz12_0 := blk_frozen BK161.out 0
          have hfz12_1 := blk_frozen BK161.out 1
          have hfz12_2 := blk_frozen BK161.out 2
          go_wp2
          repeat (go_quiet (fail); try go_wp2)
          go_meet
          case rel => exact ⟨_, (true), (by first | rfl | (simp; done) | (simp [*]; done)), H', ⟨by have := HK1.out; first | omega | exact Nat.le_refl _⟩, ⟨by (with_reducible repeat (first | refine blk_drewN ?_ _ | refine blk_drew ?_ | refine blk_alloc ?_ _)); refine blk_put (cs := #[.int .i64 ((rd_T52 l0 x10_1).f0), .int .i64 ((rd_T52 l0 x10_1).f1), .slice none 0 0]) ?_ 2 _ rfl; (with_reducible repeat (first | refine blk_drewN ?_ _ | refine blk_drew ?_ | refine blk_alloc ?_ _)); refine blk_put (cs := #[.int .i64 ((rd_T52 l0 x10_1).f0), .int .i64 0, .slice none 0 0]) ?_ 1 _ rfl; (with_reducible repeat (first | refine blk_drewN ?_ _ | refine blk_drew ?_ | refine blk_alloc ?_ _)); refine blk_put (cs := #[.int .i64 0, .int .i64 0, .slice none 0 0]) ?_ 0 _ rfl; (with_reducible repeat (first | refine blk_drewN ?_ _ | refine blk_drew ?_ | refine blk_alloc ?_ _)); exact BK161.out⟩, ⟨by repeat (first | (with_reducible first | exact HB.out | apply below_alloc | apply pw_below_drewN | apply below_drew1 | refine below_set ?_ GE161.out) | exact HB.out)⟩⟩
         ·rw [if_neg c11] at H
          have c11b0 : decide (((rd_T52 l0 x10_1).f1) < 0) = false := decide_eq_false c11
          clear c11
          by_cases c13 : ((rd_T52 l0 x10_1).f1) > 4096
          ·rw [if_pos c13] at H
           have c13b0 : decide (4096 < ((rd_T52 l0 x10_1).f1)) = true := decide_eq_true c13
           clear c13
           have H' := Aside0.mk H
           clear H
           have hcz14_0 : w7.cell? ⟨gb161, 0, none⟩ = some (.int .i64 0) := (blk_cell BK161.out 0).trans rfl
           have hcz14_1 : w7.cell? ⟨gb161, 1, none⟩ = some (.int .i64 0) := (blk_cell BK161.out 1).trans rfl
           have hcz14_2 : w7.cell? ⟨gb161, 2, none⟩ = some (.slice none 0 0) := (blk_cell BK161.out 2).trans rfl
           have hfz14_0 := blk_frozen BK161.out 0
           have hfz14_1 := blk_frozen BK161.out 1
           have hfz14_2 := blk_frozen BK161.out 2
           go_wp2
           repeat (go_quiet (fail); try go_wp2)
           go_meet
           case rel => exact ⟨_, (true), (by first | rfl | (simp; done) | (simp [*]; done)), H', ⟨by have := HK1.out; first | omega | exact Nat.le_refl _⟩, ⟨by (with_reducible repeat (first | refine blk_drewN ?_ _ | refine blk_drew ?_ | refine blk_alloc ?_ _)); refine blk_put (cs := #[.int .i64 ((rd_T52 l0 x10_1).f0), .int .i64 ((rd_T52 l0 x10_1).f1), .slice none 0 0]) ?_ 2 _ rfl; (with_reducible repeat (first | refine blk_drewN ?_ _ | refine blk_drew ?_ | refine blk_alloc ?_ _)); refine blk_put (cs := #[.int .i64 ((rd_T52 l0 x10_1).f0), .int .i64 0, .slice none 0 0]) ?_ 1 _ rfl; (with_reducible repeat (first | refine blk_drewN ?_ _ | refine blk_drew ?_ | refine blk_alloc ?_ _)); refine blk_put (cs := #[.int .i64 0, .int .i64 0, .slice none 0 0]) ?_ 0 _ rfl; (with_reducible repeat (first | refine blk_drewN ?_ _ | refine blk_drew ?_ | refine blk_alloc ?_ _)); exact BK161.out⟩, ⟨by repeat (first | (with_reducible first | exact HB.out | apply below_alloc | apply pw_below_drewN | apply below_drew1 | refine below_set ?_ GE161.out) | exact HB.out)⟩⟩
          ·rw [if_neg c13] at H
           have c13b0 : decide (4096 < ((rd_T52 l0 x10_1).f1)) = false := decide_eq_false c13
           clear c13
           by_cases c15 : ((rd_T52 l0 x10_1).f1) = 0
           ·rw [if_pos c15] at H
            have c15b0 : (((rd_T52 l0 x10_1).f1) == 0) = true := beq_iff_eq.mpr c15
            have c15b1 : (((rd_T52 l0 x10_1).f1) != 0) = false := bne_eq_false_iff_eq.mpr c15
            clear c15
            by_cases c16 : (((rd_T52 l0 x10_1).f2).length : Int) = 0
            ·rw [if_pos c16] at H
             have c16b0 : ((((rd_T52 l0 x10_1).f2).length : Int) == 0) = true := beq_iff_eq.mpr c16
             have c16b1 : ((((rd_T52 l0 x10_1).f2).length : Int) != 0) = false := bne_eq_false_iff_eq.mpr c16
             clear c16
             have H' := Aside0.mk H
             clear H
             have hcz17_0 : w7.cell? ⟨gb161, 0, none⟩ = some (.int .i64 0) := (blk_cell BK161.out 0).trans rfl
             have hcz17_1 : w7.cell? ⟨gb161, 1, none⟩ = some (.int .i64 0) := (blk_cell BK161.out 1).trans rfl
             have hcz17_2 : w7.cell? ⟨gb161, 2, none⟩ = some (.slice none 0 0) := (blk_cell BK161.out 2).trans rfl
             have hfz17_0 := blk_frozen BK161.out 0
             have hfz17_1 := blk_frozen BK161.out 1
             have hfz17_2 := blk_frozen BK161.out 2
             go_wp2
             repeat (go_quiet (fail); try go_wp2)
             go_meet
             case rel => exact ⟨_, (true), (by first | rfl | (simp; done) | (simp [*]; done)), H', ⟨by have := HK1.out; first | omega | exact Nat.le_refl _⟩, ⟨by (with_reducible repeat (first | refine blk_drewN ?_ _ | refine blk_drew ?_ | refine blk_alloc ?_ _)); refine blk_put (cs := #[.int .i64 ((rd_T52 l0 x10_1).f0), .int .i64 ((rd_T52 l0 x10_1).f1), .slice none 0 0]) ?_ 2 _ rfl; (with_reducible repeat (first | refine blk_drewN ?_ _ | refine blk_drew ?_ | refine blk_alloc ?_ _)); refine blk_put (cs := #[.int .i64 ((rd_T52 l0 x10_1).f0), .int .i64 0, .slice none 0 0]) ?_ 1 _ rfl; (with_reducible repeat (first | refine blk_drewN ?_ _ | refine blk_drew ?_ | refine blk_alloc ?_ _)); refine blk_put (cs := #[.int .i64 0, .int .i64 0, .slice none 0 0]) ?_ 0 _ rfl; (with_reducible repeat (first | refine blk_drewN ?_ _ | refine blk_drew ?_ | refine blk_alloc ?_ _)); exact BK161.out⟩, ⟨by repeat (first | (with_reducible first | exact HB.out | apply below_alloc | apply pw_below_drewN | apply below_drew1 | refine below_set ?_ GE161.out) | exact HB.out)⟩⟩
            ·rw [if_neg c16] at H
             have c16b0 : ((((rd_T52 l0 x10_1).f2).length : Int) == 0) = false := beq_eq_false_iff_ne.mpr c16
             have c16b1 : ((((rd_T52 l0 x10_1).f2).length : Int) != 0) = true := bne_iff_ne.mpr c16
             have c16b2 : ¬ (((rd_T52 l0 x10_1).f2) = []) := fun h_ => c16 (by rw [h_]; rfl)
             replace H := Option.bind_eq_some_iff.mp H
             obtain ⟨t162, A180, H⟩ := H
             replace H : (frame_possible.j1 k1 l0 x10_1 l0 (l0.length : Int) x10_1 (t162 != 0) ((rd_T52 l0 x10_1).f0) ((rd_T52 l0 x10_1).f1) ((rd_T52 l0 x10_1).f2)) = some r := H
             have A18 := Aside0.mk A180
             clear A180
             have H' := Aside0.mk H
             clear H
             have hcz19_0 : w7.cell? ⟨gb161, 0, none⟩ = some (.int .i64 0) := (blk_cell BK161.out 0).trans rfl
             have hcz19_1 : w7.cell? ⟨gb161, 1, none⟩ = some (.int .i64 0) := (blk_cell BK161.out 1).trans rfl
             have hcz19_2 : w7.cell? ⟨gb161, 2, none⟩ = some (.slice none 0 0) := (blk_cell BK161.out 2).trans rfl
             have hfz19_0 := blk_frozen BK161.out 0
             have hfz19_1 := blk_frozen BK161.out 1
             have hfz19_2 := blk_frozen BK161.out 2
             go_wp2_with (first | (go_at_call 43; (with_reducible refine (frame_lineError.calls k1 _ _ ((rd_T52 l0 x10_1).f2) t162 _ ?side1 ?side2 A18.out).mono ?_); (case side1 => exact Kd.C_below HR160_2.out (by repeat (first | (with_reducible first | exact HB.out | apply below_alloc | apply pw_below_drewN | apply below_drew1 | refine below_set ?_ GE161.out) | exact HB.out))); (case side2 => exact HC160_2.out); rintro e w' ⟨rfl, ⟨nd, rfl⟩⟩; (try first | exact ⟨rfl, _, World.drewN_drewN _ _ _⟩ | exact ⟨rfl, _, Eq.trans (World.drewN_drewN _ _ _) (congrArg (World.drewN _) (Nat.add_assoc _ _ _))⟩)))
             repeat (go_quiet (first | (go_at_call 43; (with_reducible refine (frame_lineError.calls k1 _ _ ((rd_T52 l0 x10_1).f2) t162 _ ?side1 ?side2 A18.out).mono ?_); (case side1 => exact Kd.C_below HR160_2.out (by repeat (first | (with_reducible first | exact HB.out | apply below_alloc | apply pw_below_drewN | apply below_drew1 | refine below_set ?_ GE161.out) | exact HB.out))); (case side2 => exact HC160_2.out); rintro e w' ⟨rfl, ⟨nd, rfl⟩⟩; (try first | exact ⟨rfl, _, World.drewN_drewN _ _ _⟩ | exact ⟨rfl, _, Eq.trans (World.drewN_drewN _ _ _) (congrArg (World.drewN _) (Nat.add_assoc _ _ _))⟩))); try go_wp2_with (first | (go_at_call 43; (with_reducible refine (frame_lineError.calls k1 _ _ ((rd_T52 l0 x10_1).f2) t162 _ ?side1 ?side2 A18.out).mono ?_); (case side1 => exact Kd.C_below HR160_2.out (by repeat (first | (with_reducible first | exact HB.out | apply below_alloc | apply pw_below_drewN | apply below_drew1 | refine below_set ?_ GE161.out) | exact HB.out))); (case side2 => exact HC160_2.out); rintro e w' ⟨rfl, ⟨nd, rfl⟩⟩; (try first | exact ⟨rfl, _, World.drewN_drewN _ _ _⟩ | exact ⟨rfl, _, Eq.trans (World.drewN_drewN _ _ _) (congrArg (World.drewN _) (Nat.add_assoc _ _ _))⟩))))
             go_meet
             case rel => exact ⟨_, ((t162 != 0)), (by first | rfl | (simp; done) | (simp [*]; done)), H', ⟨by have := HK1.out; first | omega | exact Nat.le_refl _⟩, ⟨by (with_reducible repeat (first | refine blk_drewN ?_ _ | refine blk_drew ?_ | refine blk_alloc ?_ _)); refine blk_put (cs := #[.int .i64 ((rd_T52 l0 x10_1).f0), .int .i64 ((rd_T52 l0 x10_1).f1), .slice none 0 0]) ?_ 2 _ rfl; (with_reducible repeat (first | refine blk_drewN ?_ _ | refine blk_drew ?_ | refine blk_alloc ?_ _)); refine blk_put (cs := #[.int .i64 ((rd_T52 l0 x10_1).f0), .int .i64 0, .slice none 0 0]) ?_ 1 _ rfl; (with_reducible repeat (first | refine blk_drewN ?_ _ | refine blk_drew ?_ | refine blk_alloc ?_ _)); refine blk_put (cs := #[.int .i64 0, .int .i64 0, .slice none 0 0]) ?_ 0 _ rfl; (with_reducible repeat (first | refine blk_drewN ?_ _ | refine blk_drew ?_ | refine blk_alloc ?_ _)); exact BK161.out⟩, ⟨by repeat (first | (with_reducible first | exact HB.out | apply below_alloc | apply pw_below_drewN | apply below_drew1 | refine below_set ?_ GE161.out) | exact HB.out)⟩⟩
           ·rw [if_neg c15] at H
            have c15b0 : (((rd_T52 l0 x10_1).f1) == 0) = false := beq_eq_false_iff_ne.mpr c15
            have c15b1 : (((rd_T52 l0 x10_1).f1) != 0) = true := bne_iff_ne.mpr c15
            replace H := Option.bind_eq_some_iff.mp H
            obtain ⟨t163, A200, H⟩ := H
            replace H : (frame_possible.j1 k1 l0 x10_1 l0 (l0.length : Int) x10_1 (t163 != 0) ((rd_T52 l0 x10_1).f0) ((rd_T52 l0 x10_1).f1) ((rd_T52 l0 x10_1).f2)) = some r := H
            have A20 := Aside0.mk A200
            clear A200
            have H' := Aside0.mk H
            clear H
            have hcz21_0 : w7.cell? ⟨gb161, 0, none⟩ = some (.int .i64 0) := (blk_cell BK161.out 0).trans rfl
            have hcz21_1 : w7.cell? ⟨gb161, 1, none⟩ = some (.int .i64 0) := (blk_cell BK161.out 1).trans rfl
            have hcz21_2 : w7.cell? ⟨gb161, 2, none⟩ = some (.slice none 0 0) := (blk_cell BK161.out 2).trans rfl
            have hfz21_0 := blk_frozen BK161.out 0
            have hfz21_1 := blk_frozen BK161.out 1
            have hfz21_2 := blk_frozen BK161.out 2
            go_wp2_with (first | (go_at_call 43; (with_reducible refine (frame_lineError.calls k1 _ _ ((rd_T52 l0 x10_1).f2) t163 _ ?side1 ?side2 A20.out).mono ?_); (case side1 => exact Kd.C_below HR160_2.out (by repeat (first | (with_reducible first | exact HB.out | apply below_alloc | apply pw_below_drewN | apply below_drew1 | refine below_set ?_ GE161.out) | exact HB.out))); (case side2 => exact HC160_2.out); rintro e w' ⟨rfl, ⟨nd, rfl⟩⟩; (try first | exact ⟨rfl, _, World.drewN_drewN _ _ _⟩ | exact ⟨rfl, _, Eq.trans (World.drewN_drewN _ _ _) (congrArg (World.drewN _) (Nat.add_assoc _ _ _))⟩)))
            repeat (go_quiet (first | (go_at_call 43; (with_reducible refine (frame_lineError.calls k1 _ _ ((rd_T52 l0 x10_1).f2) t163 _ ?side1 ?side2 A20.out).mono ?_); (case side1 => exact Kd.C_below HR160_2.out (by repeat (first | (with_reducible first | exact HB.out | apply below_alloc | apply pw_below_drewN | apply below_drew1 | refine below_set ?_ GE161.out) | exact HB.out))); (case side2 => exact HC160_2.out); rintro e w' ⟨rfl, ⟨nd, rfl⟩⟩; (try first | exact ⟨rfl, _, World.drewN_drewN _ _ _⟩ | exact ⟨rfl, _, Eq.trans (World.drewN_drewN _ _ _) (congrArg (World.drewN _) (Nat.add_assoc _ _ _))⟩))); try go_wp2_with (first | (go_at_call 43; (with_reducible refine (frame_lineError.calls k1 _ _ ((rd_T52 l0 x10_1).f2) t163 _ ?side1 ?side2 A20.out).mono ?_); (case side1 => exact Kd.C_below HR160_2.out (by repeat (first | (with_reducible first | exact HB.out | apply below_alloc | apply pw_below_drewN | apply below_drew1 | refine below_set ?_ GE161.out) | exact HB.out))); (case side2 => exact HC160_2.out); rintro e w' ⟨rfl, ⟨nd, rfl⟩⟩; (try first | exact ⟨rfl, _, World.drewN_drewN _ _ _⟩ | exact ⟨rfl, _, Eq.trans (World.drewN_drewN _ _ _) (congrArg (World.drewN _) (Nat.add_assoc _ _ _))⟩))))
            go_meet
            case rel => exact ⟨_, ((t163 != 0)), (by first | rfl | (simp; done) | (simp [*]; done)), H', ⟨by have := HK1.out; first | omega | exact Nat.le_refl _⟩, ⟨by (with_reducible repeat (first | refine blk_drewN ?_ _ | refine blk_drew ?_ | refine blk_alloc ?_ _)); refine blk_put (cs := #[.int .i64 ((rd_T52 l0 x10_1).f0), .int .i64 ((rd_T52 l0 x10_1).f1), .slice none 0 0]) ?_ 2 _ rfl; (with_reducible repeat (first | refine blk_drewN ?_ _ | refine blk_drew ?_ | refine blk_alloc ?_ _)); refine blk_put (cs := #[.int .i64 ((rd_T52 l0 x10_1).f0), .int .i64 0, .slice none 0 0]) ?_ 1 _ rfl; (with_reducible repeat (first | refine blk_drewN ?_ _ | refine blk_drew ?_ | refine blk_alloc ?_ _)); refine blk_put (cs := #[.int .i64 0, .int .i64 0, .slice none 0 0]) ?_ 0 _ rfl; (with_reducible repeat (first | refine blk_drewN ?_ _ | refine blk_drew ?_ | refine blk_alloc ?_ _)); exact BK161.out⟩, ⟨by repeat (first | (with_reducible first | exact HB.out | apply below_alloc | apply pw_below_drewN | apply below_drew1 | refine below_set ?_ GE161.out) | exact HB.out)⟩⟩
       case rest =>
        clear HC6
        try clear c1
        try clear p1
        try clear q1
        try clear hx1
        try clear c2
        try clear c2b0
        try clear c2b1
        try clear p2
        try clear c3
        try clear c3b0
        try clear c4
        try clear c4b0
        try clear c5
        try clear c5b0
        try clear c9
        try clear c9b0
        try clear c11
        try clear c11b0
        try clear c13
        try clear c13b0
        try clear c15
        try clear c15b0
        try clear c15b1
        try clear c16
        try clear c16b0
        try clear c16b1
        try clear c16b2
        try clear p16
        try clear q16
        try clear hx16
        try clear hcz10_0
        try clear hcz10_1
        try clear hcz10_2
        try clear hcz12_0
        try clear hcz12_1
        try clear hcz12_2
        try clear hcz14_0
        try clear hcz14_1
        try clear hcz14_2
        try clear hcz17_0
        try clear hcz17_1
        try clear hcz17_2
        try clear hcz19_0
        try clear hcz19_1
        try clear hcz19_2
        try clear hcz21_0
        try clear hcz21_1
        try clear hcz21_2
        try clear hcz8_0
        try clear hcz8_1
        try clear hcz8_2
        try clear hfz10_0
        try clear hfz10_1
        try clear hfz10_2
        try clear hfz12_0
        try clear hfz12_1
        try clear hfz12_2
        try clear hfz14_0
        try clear hfz14_1
        try clear hfz14_2
        try clear hfz17_0
        try clear hfz17_1
        try clear hfz17_2
        try clear hfz19_0
        try clear hfz19_1
        try clear hfz19_2
        try clear hfz21_0
        try clear hfz21_1
        try clear hfz21_2
        try clear hfz8_0
        try clear hfz8_1
        try clear hfz8_2
        try clear hx160_0
        try clear hx160_1
        try clear hx160_2
        try clear p160
        try clear p2
        try clear q160
        obtain ⟨kq, x44_5, rfl, HA, HJ5, BK161, HB⟩ := hcut
        cases kq with
        | zero => exact absurd HA.out (by simp [frame_possible.j1])
        | succ kj5 =>
         have H := HA.out
         clear HA
         simp only [frame_possible.j1] at H
         by_cases c22 : x44_5 = true
         ·subst c22
          have H1 : (some false) = some r := by rw [if_pos rfl] at H; exact H
          clear H
          have H := H1
          clear H1
          obtain rfl := Option.some.inj H
          go_wp2
          repeat (go_quiet (fail); try go_wp2)
          go_ret
          exact ⟨by first | rfl | (simp [errW_none, errW_some] <;> rfl) | (simp [*, errW_none, errW_some] <;> rfl), by repeat (first | (with_reducible first | exact HB.out | apply below_alloc | apply pw_below_drewN | apply below_drew1 | refine below_set ?_ GE161.out) | exact HB.out)⟩
         ·replace c22 := Bool.eq_false_iff.mpr c22
          subst c22
          have H1 : (if x10_1 > 0 then (if 0 ≤ (wrap64 (x10_1 - 1)) then (if (wrap64 (x10_1 - 1)) < (l0.length : Int) then (if (wrap64 (((rd_T52 l0 x10_1).f0) - ((rd_T52 l0 (wrap64 (x10_1 - 1))).f1))) ≤ ((rd_T52 l0 (wrap64 (x10_1 - 1))).f0) then (some false) else (frame_possible.l0 kj5 l0 l0 (l0.length : Int) (wrap64 (x10_1 + 1)))) else (none)) else (none)) else (frame_possible.l0 kj5 l0 l0 (l0.length : Int) (wrap64 (x10_1 + 1)))) = some r := by rw [if_neg (show ¬ (false = true) by decide)] at H; exact H
          clear H
          have H := H1
          clear H1
          by_cases c23 : x10_1 > 0
          ·rw [if_pos c23] at H
           have c23b0 : decide (0 < x10_1) = true := decide_eq_true c23
           clear c23
           obtain ⟨ji24, hji24⟩ : ∃ j_ : Int, (wrap64 (x10_1 - 1)) = j_ := ⟨_, rfl⟩
           replace H : (if 0 ≤ (ji24) then (if (ji24) < (l0.length : Int) then (if (wrap64 (((rd_T52 l0 x10_1).f0) - ((rd_T52 l0 (ji24)).f1))) ≤ ((rd_T52 l0 (ji24)).f0) then (some false) else (frame_possible.l0 kj5 l0 l0 (l0.length : Int) (wrap64 (x10_1 + 1)))) else (none)) else (none)) = some r := by first | (rw [hji24] at H; exact H) | (simp only [hji24] at H ⊢; exact H)
           have hji24w : (IntKind.i64.wrap (x10_1 - 1)) = ji24 := (i64_w _).trans hji24
           by_cases c25 : 0 ≤ (ji24)
           ·rw [if_pos c25] at H
            have c25b0 : decide (0 ≤ (ji24)) = true := decide_eq_true c25
            clear c25
            by_cases c26 : (ji24) < (l0.length : Int)
            ·rw [if_pos c26] at H
             have c26b0 : decide ((ji24) < (l0.length : Int)) = true := decide_eq_true c26
             clear c26
             by_cases c27 : (wrap64 (((rd_T52 l0 x10_1).f0) - ((rd_T52 l0 (ji24)).f1))) ≤ ((rd_T52 l0 (ji24)).f0)
             ·rw [if_pos c27] at H
              have c27b0 : decide ((wrap64 (((rd_T52 l0 x10_1).f0) - ((rd_T52 l0 (ji24)).f1))) ≤ ((rd_T52 l0 (ji24)).f0)) = true := decide_eq_true c27
              clear c27
              obtain rfl := Option.some.inj H
              have hcz28_0 : wc.cell? ⟨gb161, 0, none⟩ = some (.int .i64 ((rd_T52 l0 x10_1).f0)) := (blk_cell BK161.out 0).trans rfl
              have hcz28_1 : wc.cell? ⟨gb161, 1, none⟩ = some (.int .i64 ((rd_T52 l0 x10_1).f1)) := (blk_cell BK161.out 1).trans rfl
              have hcz28_2 : wc.cell? ⟨gb161, 2, none⟩ = some (.slice A160_2 ((rd_T52 l0 x10_1).f2).length c160_2) := (blk_cell BK161.out 2).trans rfl
              have hfz28_0 := blk_frozen BK161.out 0
              have hfz28_1 := blk_frozen BK161.out 1
              have hfz28_2 := blk_frozen BK161.out 2
              have p164 : 0 ≤ ((ji24) : Int) := of_decide_eq_true (by first | (with_reducible assumption) | assumption)
              have q164 : (ji24) < (l0.length : Int) := of_decide_eq_true (by first | (with_reducible assumption) | assumption)
              obtain ⟨ad164, A164_2, c164_2, e164, hx164_0, hx164_1, hx164_2, hl164_2, hi164_2⟩ := at_T52 HR0.out (ji24) p164 q164
              obtain rfl : ad160 = ad164 := (by injection e164)
              replace hx164_0 := (HB.out.cell (World.block_lt_of_cell? w _ hx164_0)).trans hx164_0
              replace hx164_1 := (HB.out.cell (World.block_lt_of_cell? w _ hx164_1)).trans hx164_1
              replace hx164_2 := (HB.out.cell (World.block_lt_of_cell? w _ hx164_2)).trans hx164_2
              have HR164_2 := Aside0.mk hi164_2
              have HC164_2 := Aside0.mk hl164_2
              clear hi164_2 hl164_2
              replace p164 := eq_true p164
              replace q164 := eq_true q164
              have p165 : 0 ≤ ((ji24) : Int) := of_decide_eq_true (by first | (with_reducible assumption) | assumption)
              have q165 : (ji24) < (l0.length : Int) := of_decide_eq_true (by first | (with_reducible assumption) | assumption)
              obtain ⟨ad165, A165_2, c165_2, e165, hx165_0, hx165_1, hx165_2, hl165_2, hi165_2⟩ := at_T52 HR0.out (ji24) p165 q165
              obtain rfl : ad160 = ad165 := (by injection e165)
              replace hx165_0 := (HB.out.cell (World.block_lt_of_cell? w _ hx165_0)).trans hx165_0
              replace hx165_1 := (HB.out.cell (World.block_lt_of_cell? w _ hx165_1)).trans hx165_1
              replace hx165_2 := (HB.out.cell (World.block_lt_of_cell? w _ hx165_2)).trans hx165_2
              have HR165_2 := Aside0.mk hi165_2
              have HC165_2 := Aside0.mk hl165_2
              clear hi165_2 hl165_2
              replace p165 := eq_true p165
              replace q165 := eq_true q165
              have ea_ := Option.some.inj (hx164_2.symm.trans hx165_2)
              injection ea_ with ea_ en_ ec_
              subst ea_
              subst ec_
              clear en_
              go_wp2
              repeat (go_quiet (fail); try go_wp2)
              go_ret
              exact ⟨by first | rfl | (simp [errW_none, errW_some] <;> rfl) | (simp only [← hji24]; first | rfl | (simp [errW_none, errW_some] <;> rfl)) | (simp [*, errW_none, errW_some] <;> rfl), by repeat (first | (with_reducible first | exact HB.out | apply below_alloc | apply pw_below_drewN | apply below_drew1 | refine below_set ?_ GE161.out) | exact HB.out)⟩
             ·rw [if_neg c27] at H
              have c27b0 : decide ((wrap64 (((rd_T52 l0 x10_1).f0) - ((rd_T52 l0 (ji24)).f1))) ≤ ((rd_T52 l0 (ji24)).f0)) = false := decide_eq_false c27
              clear c27
              have H' := Aside0.mk H
              clear H
              have hcz29_0 : wc.cell? ⟨gb161, 0, none⟩ = some (.int .i64 ((rd_T52 l0 x10_1).f0)) := (blk_cell BK161.out 0).trans rfl
              have hcz29_1 : wc.cell? ⟨gb161, 1, none⟩ = some (.int .i64 ((rd_T52 l0 x10_1).f1)) := (blk_cell BK161.out 1).trans rfl
              have hcz29_2 : wc.cell? ⟨gb161, 2, none⟩ = some (.slice A160_2 ((rd_T52 l0 x10_1).f2).length c160_2) := (blk_cell BK161.out 2).trans rfl
              have hfz29_0 := blk_frozen BK161.out 0
              have hfz29_1 := blk_frozen BK161.out 1
              have hfz29_2 := blk_frozen BK161.out 2
              have p164 : 0 ≤ ((ji24) : Int) := of_decide_eq_true (by first | (with_reducible assumption) | assumption)
              have q164 : (ji24) < (l0.length : Int) := of_decide_eq_true (by first | (with_reducible assumption) | assumption)
              obtain ⟨ad164, A164_2, c164_2, e164, hx164_0, hx164_1, hx164_2, hl164_2, hi164_2⟩ := at_T52 HR0.out (ji24) p164 q164
              obtain rfl : ad160 = ad164 := (by injection e164)
              replace hx164_0 := (HB.out.cell (World.block_lt_of_cell? w _ hx164_0)).trans hx164_0
              replace hx164_1 := (HB.out.cell (World.block_lt_of_cell? w _ hx164_1)).trans hx164_1
              replace hx164_2 := (HB.out.cell (World.block_lt_of_cell? w _ hx164_2)).trans hx164_2
              have HR164_2 := Aside0.mk hi164_2
              have HC164_2 := Aside0.mk hl164_2
              clear hi164_2 hl164_2
              replace p164 := eq_true p164
              replace q164 := eq_true q164
              have p165 : 0 ≤ ((ji24) : Int) := of_decide_eq_true (by first | (with_reducible assumption) | assumption)
              have q165 : (ji24) < (l0.length : Int) := of_decide_eq_true (by first | (with_reducible assumption) | assumption)
              obtain ⟨ad165, A165_2, c165_2, e165, hx165_0, hx165_1, hx165_2, hl165_2, hi165_2⟩ := at_T52 HR0.out (ji24) p165 q165
              obtain rfl : ad160 = ad165 := (by injection e165)
              replace hx165_0 := (HB.out.cell (World.block_lt_of_cell? w _ hx165_0)).trans hx165_0
              replace hx165_1 := (HB.out.cell (World.block_lt_of_cell? w _ hx165_1)).trans hx165_1
              replace hx165_2 := (HB.out.cell (World.block_lt_of_cell? w _ hx165_2)).trans hx165_2
              have HR165_2 := Aside0.mk hi165_2
              have HC165_2 := Aside0.mk hl165_2
              clear hi165_2 hl165_2
              replace p165 := eq_true p165
              replace q165 := eq_true q165
              have ea_ := Option.some.inj (hx164_2.symm.trans hx165_2)
              injection ea_ with ea_ en_ ec_
              subst ea_
              subst ec_
              clear en_
              go_wp2
              repeat (go_quiet (fail); try go_wp2)
              go_roundg kj5
              case measure => have := HK1.out; have := HJ5.out; omega
              case rel => exact ⟨(wrap64 (x10_1 + 1)), (by first | rfl | (simp; done) | (simp [*]; done)), H', ⟨by have := HK1.out; have := HJ5.out; omega⟩, ⟨by repeat (first | (with_reducible first | exact HB.out | apply below_alloc | apply pw_below_drewN | apply below_drew1 | refine below_set ?_ GE161.out) | exact HB.out)⟩⟩
            ·rw [if_neg c26] at H
             exact absurd H (by simp)
           ·rw [if_neg c25] at H
            exact absurd H (by simp)
          ·rw [if_neg c23] at H
           have c23b0 : decide (0 < x10_1) = false := decide_eq_false c23
           clear c23
           have H' := Aside0.mk H
           clear H
           go_wp2
           repeat (go_quiet (fail); try go_wp2)
           go_roundg kj5
           case measure => have := HK1.out; have := HJ5.out; omega
           case rel => exact ⟨(wrap64 (x10_1 + 1)), (by first | rfl | (simp; done) | (simp [*]; done)), H', ⟨by have := HK1.out; have := HJ5.out; omega⟩, ⟨by repeat (first | (with_reducible first | exact HB.out | apply below_alloc | apply pw_below_drewN | apply below_drew1 | refine below_set ?_ GE161.out) | exact HB.out)⟩⟩
      ·rw [if_neg c5] at H
       exact absurd H (by simp)
     ·rw [if_neg c4] at H
      exact absurd H (by simp)
    ·rw [if_neg c3] at H
     have c3b0 : decide (x10_1 < (l0.length : Int)) = false := decide_eq_false c3
     clear c3
     obtain rfl := Option.some.inj H
     go_wp2
     repeat (go_quiet (fail); try go_wp2)
     go_ret
     exact ⟨by first | rfl | (simp [errW_none, errW_some] <;> rfl) | (simp [*, errW_none, errW_some] <;> rfl), by repeat (first | (with_reducible first | exact HB.out | apply below_alloc | apply pw_below_drewN | apply below_drew1) | exact HB.out)⟩
end Go.Proofs.YtfpopmojlmpopaaDoor.G

end
section
namespace Go.Proofs.YtfpopmojlmpopaaDoor.G
open Go.RowKit Go.Proofs.YtfpopmojlmpopaaDoorW.PrintWords Go.Proofs.YtfpopmojlmpopaaDoorW.PrintLast Go.Proofs.YtfpopmojlmpopaaDoorW.PrintMore
attribute [local go_sem] max2_int min2_int max_two min_two max_three min_three max_four min_four
set_option linter.unusedVariables false
set_option linter.unusedSimpArgs false
def frame_isDisplay.f (a0 : Int) : Option (Bool) := if 1 ≤ a0 then (some (decide (a0 ≤ 16))) else (some false)
set_option maxHeartbeats 8000000 in
set_option maxRecDepth 100000 in
theorem frame_isDisplay.calls (a0 : Int) (r : Bool) (w : World) (h : frame_isDisplay.f a0 = some r) :
  Calls Tryd.prog 60 #[.int .i64 a0] w fun e w' => e = .returned (.bool r) ∧ Drawn0 w w' := by
 have H : (if 1 ≤ a0 then (some (decide (a0 ≤ 16))) else (some false)) = some r := h
 clear h
 by_cases c2 : 1 ≤ a0
 ·rw [if_pos c2] at H
  have c2b0 : decide (1 ≤ a0) = true := decide_eq_true c2
  clear c2
  obtain rfl := Option.some.inj H
  go_enter Tryd.func60, Tryd.ntmps60
  go_wp2
  go_ret
  exact ⟨by first | rfl | (simp; done) | (simp [*]; done), by repeat (first | exact Drawn0.refl _ | apply Drawn0.step)⟩
 ·rw [if_neg c2] at H
  have c2b0 : decide (1 ≤ a0) = false := decide_eq_false c2
  clear c2
  obtain rfl := Option.some.inj H
  go_enter Tryd.func60, Tryd.ntmps60
  go_wp2
  go_ret
  exact ⟨by first | rfl | (simp; done) | (simp [*]; done), by repeat (first | exact Drawn0.refl _ | apply Drawn0.step)⟩
def frame_routed.j0 : Nat → Int → Bool → Int → Int → Int → Int → Int → List ByteArray → List (S52) → Option (Bool)
 | 0, _, _, _, _, _, _, _, _, _ => none
 | k + 1, x4, x5, x312000, x312001, x312002, x312003, x312004, x312005, x312006 => if x5 = true then ((frame_isDisplay.f x312001).bind fun t312 => (if t312 = true then (if x312002 = 0 then (if (x312005.length : Int) = 0 then (some ((x312006.length : Int) == 0)) else (some false)) else (some false)) else (some false))) else (if x4 = 2 then (if x312001 = 0 then ((frame_isDisplay.f x312002).bind fun t313 => (if t313 = true then (some ((x312006.length : Int) == 0)) else (some false))) else (some false)) else (if x4 = 3 then (if x312001 = 0 then ((frame_isDisplay.f x312002).bind fun t314 => (if t314 = true then (some ((x312005.length : Int) == 0)) else (some false))) else (some false)) else (if x4 = 4 then (if x312001 = 0 then ((frame_isDisplay.f x312002).bind fun t315 => (if t315 = true then (if (x312005.length : Int) = 0 then (some ((x312006.length : Int) == 0)) else (some false)) else (some false))) else (some false)) else (some false))))
def frame_routed.f (k : Nat) (a0_0 : Int) (a0_1 : Int) (a0_2 : Int) (a0_3 : Int) (a0_4 : Int) (l0_5 : List ByteArray) (l0_6 : List (S52)) : Option (Bool) := if a0_0 = 1 then (frame_routed.j0 k a0_0 (a0_0 == 1) a0_0 a0_1 a0_2 a0_3 a0_4 l0_5 l0_6) else (frame_routed.j0 k a0_0 (a0_0 == 5) a0_0 a0_1 a0_2 a0_3 a0_4 l0_5 l0_6)
set_option maxHeartbeats 8000000 in
set_option maxRecDepth 100000 in
theorem frame_routed.calls (k : Nat) (a0_0 : Int) (a0_1 : Int) (a0_2 : Int) (a0_3 : Int) (a0_4 : Int) (A0_5 : Option Addr) (c0_5 : Nat) (l0_5 : List ByteArray) (A0_6 : Option Addr) (c0_6 : Nat) (l0_6 : List (S52)) (r : Bool) (w : World) (hr0_5 : Kd.C Kd.string w A0_5 l0_5.length l0_5) (hc0_5 : l0_5.length ≤ c0_5) (hr0_6 : Kd.C k52 w A0_6 l0_6.length l0_6) (hc0_6 : l0_6.length ≤ c0_6) (h : frame_routed.f k a0_0 a0_1 a0_2 a0_3 a0_4 l0_5 l0_6 = some r) :
  Calls Tryd.prog 52 #[.agg #[.int .i64 a0_0, .int .i64 a0_1, .int .i64 a0_2, .int .i64 a0_3, .int .i64 a0_4, .slice A0_5 l0_5.length c0_5, .slice A0_6 l0_6.length c0_6]] w fun e w' => e = .returned (.bool r) ∧ Below w.heap.size w w' := by
 have hu31 := Tryd.underlying31
 have HR0_5 := Aside0.mk hr0_5
 have HC0_5 := Aside0.mk hc0_5
 clear hr0_5 hc0_5
 have HR0_6 := Aside0.mk hr0_6
 have HC0_6 := Aside0.mk hc0_6
 clear hr0_6 hc0_6
 have HB := Aside0.mk (Below.refl w.heap.size w)
 have H : (if a0_0 = 1 then (frame_routed.j0 k a0_0 (a0_0 == 1) a0_0 a0_1 a0_2 a0_3 a0_4 l0_5 l0_6) else (frame_routed.j0 k a0_0 (a0_0 == 5) a0_0 a0_1 a0_2 a0_3 a0_4 l0_5 l0_6)) = some r := h
 clear h
 have HC2 := Aside0.mk H
 clear H
 go_enter Tryd.func52, Tryd.ntmps52
 go_upto_if 5 with (first | ((with_reducible refine gate_dst (N := 1) rfl ?_); (try (refine gate_guard (by rfl) ?_; dsimp only)); refine box_event ?hg (N := 1) ?hd (cs := #[.int .i64 a0_0, .int .i64 a0_1, .int .i64 a0_2, .int .i64 a0_3, .int .i64 a0_4, .slice A0_5 l0_5.length c0_5, .slice A0_6 l0_6.length c0_6]) (t := 31) ?hr ?_; (case hd => rfl); (case hg => rfl); (case hr => first | (go_simp; done) | (go_simp; rfl)); intro gb311 hg w3 hbox hb; have n0_ := Aside0.mk (below_step (by repeat (first | (with_reducible first | exact HB.out | apply below_alloc | apply pw_below_drewN | apply below_drew1) | exact HB.out)) hb); have n1_ := Aside0.mk (hbox); have n2_ := Aside0.mk ((by rw [hg]; exact (below_size (by repeat (first | (with_reducible first | exact HB.out | apply below_alloc | apply pw_below_drewN | apply below_drew1) | exact HB.out))) : w.heap.size ≤ gb311)); have n3_ := Aside0.mk ((by rw [hg]; exact (below_size (by repeat (first | (with_reducible first | exact HB.out | apply below_alloc | apply pw_below_drewN | apply below_drew1) | exact HB.out))) : w.heap.size ≤ gb311)); clear HB; have HB := n0_; have BK311 := n1_; have GW311 := n2_; have GE311 := n3_; clear n0_ n1_ n2_ n3_; clear hb hbox hg; have hcz4_0 : w3.cell? ⟨gb311, 0, none⟩ = some (.int .i64 a0_0) := (blk_cell BK311.out 0).trans rfl; have hcz4_1 : w3.cell? ⟨gb311, 1, none⟩ = some (.int .i64 a0_1) := (blk_cell BK311.out 1).trans rfl; have hcz4_2 : w3.cell? ⟨gb311, 2, none⟩ = some (.int .i64 a0_2) := (blk_cell BK311.out 2).trans rfl; have hcz4_3 : w3.cell? ⟨gb311, 3, none⟩ = some (.int .i64 a0_3) := (blk_cell BK311.out 3).trans rfl; have hcz4_4 : w3.cell? ⟨gb311, 4, none⟩ = some (.int .i64 a0_4) := (blk_cell BK311.out 4).trans rfl; have hcz4_5 : w3.cell? ⟨gb311, 5, none⟩ = some (.slice A0_5 l0_5.length c0_5) := (blk_cell BK311.out 5).trans rfl; have hcz4_6 : w3.cell? ⟨gb311, 6, none⟩ = some (.slice A0_6 l0_6.length c0_6) := (blk_cell BK311.out 6).trans rfl; have hfz4_0 := blk_frozen BK311.out 0; have hfz4_1 := blk_frozen BK311.out 1; have hfz4_2 := blk_frozen BK311.out 2; have hfz4_3 := blk_frozen BK311.out 3; have hfz4_4 := blk_frozen BK311.out 4; have hfz4_5 := blk_frozen BK311.out 5; have hfz4_6 := blk_frozen BK311.out 6))
 (try simp only [Act.put, sA_, sB_, sC_])
 go_cut [5] (fun v5 wc => ∃ (kq : Nat) (x5_1 : Bool), v5 = .bool x5_1 ∧ Aside0 (frame_routed.j0 kq a0_0 x5_1 a0_0 a0_1 a0_2 a0_3 a0_4 l0_5 l0_6 = some r) ∧ Aside0 (kq ≤ k) ∧ Aside0 (wc.heap[gb311]? = some (.cells #[.int .i64 a0_0, .int .i64 a0_1, .int .i64 a0_2, .int .i64 a0_3, .int .i64 a0_4, (.slice A0_5 l0_5.length c0_5), (.slice A0_6 l0_6.length c0_6)] 31 (0, 0))) ∧ Aside0 (Below w.heap.size w wc))
 case first =>
  have H := HC2.out
  clear HC2
  by_cases c5 : a0_0 = 1
  ·rw [if_pos c5] at H
   have c5b0 : (a0_0 == 1) = true := beq_iff_eq.mpr c5
   have c5b1 : (a0_0 != 1) = false := bne_eq_false_iff_eq.mpr c5
   clear c5
   (first | rw [c5b0] | (simp only [i64_w, i32_w]; rw [c5b0]) | skip)
   have H' := Aside0.mk H
   clear H
   go_wp2
   go_meet
   case rel => exact ⟨_, ((a0_0 == 1)), (by first | rfl | (simp; done) | (simp [*]; done)), H', ⟨by first | omega | exact Nat.le_refl _⟩, ⟨by (with_reducible repeat (first | refine blk_drewN ?_ _ | refine blk_drew ?_ | refine blk_alloc ?_ _)); exact BK311.out⟩, ⟨by repeat (first | (with_reducible first | exact HB.out | apply below_alloc | apply pw_below_drewN | apply below_drew1 | refine below_set ?_ GE311.out) | exact HB.out)⟩⟩
  ·rw [if_neg c5] at H
   have c5b0 : (a0_0 == 1) = false := beq_eq_false_iff_ne.mpr c5
   have c5b1 : (a0_0 != 1) = true := bne_iff_ne.mpr c5
   (first | rw [c5b0] | (simp only [i64_w, i32_w]; rw [c5b0]) | skip)
   have H' := Aside0.mk H
   clear H
   go_wp2
   go_meet
   case rel => exact ⟨_, ((a0_0 == 5)), (by first | rfl | (simp; done) | (simp [*]; done)), H', ⟨by first | omega | exact Nat.le_refl _⟩, ⟨by (with_reducible repeat (first | refine blk_drewN ?_ _ | refine blk_drew ?_ | refine blk_alloc ?_ _)); exact BK311.out⟩, ⟨by repeat (first | (with_reducible first | exact HB.out | apply below_alloc | apply pw_below_drewN | apply below_drew1 | refine below_set ?_ GE311.out) | exact HB.out)⟩⟩
 case rest =>
  clear HC2
  try clear p2
  try clear c5
  try clear c5b0
  try clear c5b1
  try clear hcz4_0
  try clear hcz4_1
  try clear hcz4_2
  try clear hcz4_3
  try clear hcz4_4
  try clear hcz4_5
  try clear hcz4_6
  try clear hfz4_0
  try clear hfz4_1
  try clear hfz4_2
  try clear hfz4_3
  try clear hfz4_4
  try clear hfz4_5
  try clear hfz4_6
  obtain ⟨kq, x5_1, rfl, HA, HJ1, BK311, HB⟩ := hcut
  cases kq with
  | zero => exact absurd HA.out (by simp [frame_routed.j0])
  | succ kj1 =>
   have H := HA.out
   clear HA
   simp only [frame_routed.j0] at H
   by_cases c6 : x5_1 = true
   ·subst c6
    have H1 : ((frame_isDisplay.f a0_1).bind fun t312 => (if t312 = true then (if a0_2 = 0 then (if (l0_5.length : Int) = 0 then (some ((l0_6.length : Int) == 0)) else (some false)) else (some false)) else (some false))) = some r := by rw [if_pos rfl] at H; exact H
    clear H
    have H := H1
    clear H1
    replace H := Option.bind_eq_some_iff.mp H
    obtain ⟨t312, A70, H⟩ := H
    replace H : (if t312 = true then (if a0_2 = 0 then (if (l0_5.length : Int) = 0 then (some ((l0_6.length : Int) == 0)) else (some false)) else (some false)) else (some false)) = some r := H
    have A7 := Aside0.mk A70
    clear A70
    by_cases c8 : t312 = true
    ·subst c8
     have H1 : (if a0_2 = 0 then (if (l0_5.length : Int) = 0 then (some ((l0_6.length : Int) == 0)) else (some false)) else (some false)) = some r := by rw [if_pos rfl] at H; exact H
     clear H
     have H := H1
     clear H1
     by_cases c9 : a0_2 = 0
     ·rw [if_pos c9] at H
      have c9b0 : (a0_2 == 0) = true := beq_iff_eq.mpr c9
      have c9b1 : (a0_2 != 0) = false := bne_eq_false_iff_eq.mpr c9
      clear c9
      by_cases c10 : (l0_5.length : Int) = 0
      ·rw [if_pos c10] at H
       have c10b0 : ((l0_5.length : Int) == 0) = true := beq_iff_eq.mpr c10
       have c10b1 : ((l0_5.length : Int) != 0) = false := bne_eq_false_iff_eq.mpr c10
       clear c10
       obtain rfl := Option.some.inj H
       have hcz11_0 : wc.cell? ⟨gb311, 0, none⟩ = some (.int .i64 a0_0) := (blk_cell BK311.out 0).trans rfl
       have hcz11_1 : wc.cell? ⟨gb311, 1, none⟩ = some (.int .i64 a0_1) := (blk_cell BK311.out 1).trans rfl
       have hcz11_2 : wc.cell? ⟨gb311, 2, none⟩ = some (.int .i64 a0_2) := (blk_cell BK311.out 2).trans rfl
       have hcz11_3 : wc.cell? ⟨gb311, 3, none⟩ = some (.int .i64 a0_3) := (blk_cell BK311.out 3).trans rfl
       have hcz11_4 : wc.cell? ⟨gb311, 4, none⟩ = some (.int .i64 a0_4) := (blk_cell BK311.out 4).trans rfl
       have hcz11_5 : wc.cell? ⟨gb311, 5, none⟩ = some (.slice A0_5 l0_5.length c0_5) := (blk_cell BK311.out 5).trans rfl
       have hcz11_6 : wc.cell? ⟨gb311, 6, none⟩ = some (.slice A0_6 l0_6.length c0_6) := (blk_cell BK311.out 6).trans rfl
       have hfz11_0 := blk_frozen BK311.out 0
       have hfz11_1 := blk_frozen BK311.out 1
       have hfz11_2 := blk_frozen BK311.out 2
       have hfz11_3 := blk_frozen BK311.out 3
       have hfz11_4 := blk_frozen BK311.out 4
       have hfz11_5 := blk_frozen BK311.out 5
       have hfz11_6 := blk_frozen BK311.out 6
       go_wp2_with (first | ((with_reducible refine gate_callee (f := 60) rfl ?_); refine goesL_ (some 10) rfl rfl Tryd.func60 (by kernel_rfl) rfl #[.int .i64 a0_1] rfl (by (try simp only [List.map_toArray, List.map_cons, List.map_nil]); first | done | rfl | (simp only [List.length_drop, List.length_take]; rfl)) ?_; (with_reducible refine (frame_isDisplay.calls a0_1 true _ A7.out).mono ?_); rintro e w' ⟨rfl, ⟨nd, rfl⟩⟩; refine ⟨_, rfl, ?_⟩))
       go_ret
       exact ⟨by first | rfl | (simp [errW_none, errW_some] <;> rfl) | (simp [*, errW_none, errW_some] <;> rfl), by repeat (first | (with_reducible first | exact HB.out | apply below_alloc | apply pw_below_drewN | apply below_drew1 | refine below_set ?_ GE311.out) | exact HB.out)⟩
      ·rw [if_neg c10] at H
       have c10b0 : ((l0_5.length : Int) == 0) = false := beq_eq_false_iff_ne.mpr c10
       have c10b1 : ((l0_5.length : Int) != 0) = true := bne_iff_ne.mpr c10
       have c10b2 : ¬ (l0_5 = []) := fun h_ => c10 (by rw [h_]; rfl)
       obtain rfl := Option.some.inj H
       have hcz12_0 : wc.cell? ⟨gb311, 0, none⟩ = some (.int .i64 a0_0) := (blk_cell BK311.out 0).trans rfl
       have hcz12_1 : wc.cell? ⟨gb311, 1, none⟩ = some (.int .i64 a0_1) := (blk_cell BK311.out 1).trans rfl
       have hcz12_2 : wc.cell? ⟨gb311, 2, none⟩ = some (.int .i64 a0_2) := (blk_cell BK311.out 2).trans rfl
       have hcz12_3 : wc.cell? ⟨gb311, 3, none⟩ = some (.int .i64 a0_3) := (blk_cell BK311.out 3).trans rfl
       have hcz12_4 : wc.cell? ⟨gb311, 4, none⟩ = some (.int .i64 a0_4) := (blk_cell BK311.out 4).trans rfl
       have hcz12_5 : wc.cell? ⟨gb311, 5, none⟩ = some (.slice A0_5 l0_5.length c0_5) := (blk_cell BK311.out 5).trans rfl
       have hcz12_6 : wc.cell? ⟨gb311, 6, none⟩ = some (.slice A0_6 l0_6.length c0_6) := (blk_cell BK311.out 6).trans rfl
       have hfz12_0 := blk_frozen BK311.out 0
       have hfz12_1 := blk_frozen BK311.out 1
       have hfz12_2 := blk_frozen BK311.out 2
       have hfz12_3 := blk_frozen BK311.out 3
       have hfz12_4 := blk_frozen BK311.out 4
       have hfz12_5 := blk_frozen BK311.out 5
       have hfz12_6 := blk_frozen BK311.out 6
       go_wp2_with (first | ((with_reducible refine gate_callee (f := 60) rfl ?_); refine goesL_ (some 10) rfl rfl Tryd.func60 (by kernel_rfl) rfl #[.int .i64 a0_1] rfl (by (try simp only [List.map_toArray, List.map_cons, List.map_nil]); first | done | rfl | (simp only [List.length_drop, List.length_take]; rfl)) ?_; (with_reducible refine (frame_isDisplay.calls a0_1 true _ A7.out).mono ?_); rintro e w' ⟨rfl, ⟨nd, rfl⟩⟩; refine ⟨_, rfl, ?_⟩))
       go_ret
       exact ⟨by first | rfl | (simp [errW_none, errW_some] <;> rfl) | (simp [*, errW_none, errW_some] <;> rfl), by repeat (first | (with_reducible first | exact HB.out | apply below_alloc | apply pw_below_drewN | apply below_drew1 | refine below_set ?_ GE311.out) | exact HB.out)⟩
     ·rw [if_neg c9] at H
      have c9b0 : (a0_2 == 0) = false := beq_eq_false_iff_ne.mpr c9
      have c9b1 : (a0_2 != 0) = true := bne_iff_ne.mpr c9
      obtain rfl := Option.some.inj H
      have hcz13_0 : wc.cell? ⟨gb311, 0, none⟩ = some (.int .i64 a0_0) := (blk_cell BK311.out 0).trans rfl
      have hcz13_1 : wc.cell? ⟨gb311, 1, none⟩ = some (.int .i64 a0_1) := (blk_cell BK311.out 1).trans rfl
      have hcz13_2 : wc.cell? ⟨gb311, 2, none⟩ = some (.int .i64 a0_2) := (blk_cell BK311.out 2).trans rfl
      have hcz13_3 : wc.cell? ⟨gb311, 3, none⟩ = some (.int .i64 a0_3) := (blk_cell BK311.out 3).trans rfl
      have hcz13_4 : wc.cell? ⟨gb311, 4, none⟩ = some (.int .i64 a0_4) := (blk_cell BK311.out 4).trans rfl
      have hcz13_5 : wc.cell? ⟨gb311, 5, none⟩ = some (.slice A0_5 l0_5.length c0_5) := (blk_cell BK311.out 5).trans rfl
      have hcz13_6 : wc.cell? ⟨gb311, 6, none⟩ = some (.slice A0_6 l0_6.length c0_6) := (blk_cell BK311.out 6).trans rfl
      have hfz13_0 := blk_frozen BK311.out 0
      have hfz13_1 := blk_frozen BK311.out 1
      have hfz13_2 := blk_frozen BK311.out 2
      have hfz13_3 := blk_frozen BK311.out 3
      have hfz13_4 := blk_frozen BK311.out 4
      have hfz13_5 := blk_frozen BK311.out 5
      have hfz13_6 := blk_frozen BK311.out 6
      go_wp2_with (first | ((with_reducible refine gate_callee (f := 60) rfl ?_); refine goesL_ (some 10) rfl rfl Tryd.func60 (by kernel_rfl) rfl #[.int .i64 a0_1] rfl (by (try simp only [List.map_toArray, List.map_cons, List.map_nil]); first | done | rfl | (simp only [List.length_drop, List.length_take]; rfl)) ?_; (with_reducible refine (frame_isDisplay.calls a0_1 true _ A7.out).mono ?_); rintro e w' ⟨rfl, ⟨nd, rfl⟩⟩; refine ⟨_, rfl, ?_⟩))
      go_ret
      exact ⟨by first | rfl | (simp [errW_none, errW_some] <;> rfl) | (simp [*, errW_none, errW_some] <;> rfl), by repeat (first | (with_reducible first | exact HB.out | apply below_alloc | apply pw_below_drewN | apply below_drew1 | refine below_set ?_ GE311.out) | exact HB.out)⟩
    ·replace c8 := Bool.eq_false_iff.mpr c8
     subst c8
     have H1 : (some false) = some r := by rw [if_neg (show ¬ (false = true) by decide)] at H; exact H
     clear H
     have H := H1
     clear H1
     obtain rfl := Option.some.inj H
     have hcz14_0 : wc.cell? ⟨gb311, 0, none⟩ = some (.int .i64 a0_0) := (blk_cell BK311.out 0).trans rfl
     have hcz14_1 : wc.cell? ⟨gb311, 1, none⟩ = some (.int .i64 a0_1) := (blk_cell BK311.out 1).trans rfl
     have hcz14_2 : wc.cell? ⟨gb311, 2, none⟩ = some (.int .i64 a0_2) := (blk_cell BK311.out 2).trans rfl
     have hcz14_3 : wc.cell? ⟨gb311, 3, none⟩ = some (.int .i64 a0_3) := (blk_cell BK311.out 3).trans rfl
     have hcz14_4 : wc.cell? ⟨gb311, 4, none⟩ = some (.int .i64 a0_4) := (blk_cell BK311.out 4).trans rfl
     have hcz14_5 : wc.cell? ⟨gb311, 5, none⟩ = some (.slice A0_5 l0_5.length c0_5) := (blk_cell BK311.out 5).trans rfl
     have hcz14_6 : wc.cell? ⟨gb311, 6, none⟩ = some (.slice A0_6 l0_6.length c0_6) := (blk_cell BK311.out 6).trans rfl
     have hfz14_0 := blk_frozen BK311.out 0
     have hfz14_1 := blk_frozen BK311.out 1
     have hfz14_2 := blk_frozen BK311.out 2
     have hfz14_3 := blk_frozen BK311.out 3
     have hfz14_4 := blk_frozen BK311.out 4
     have hfz14_5 := blk_frozen BK311.out 5
     have hfz14_6 := blk_frozen BK311.out 6
     go_wp2_with (first | ((with_reducible refine gate_callee (f := 60) rfl ?_); refine goesL_ (some 10) rfl rfl Tryd.func60 (by kernel_rfl) rfl #[.int .i64 a0_1] rfl (by (try simp only [List.map_toArray, List.map_cons, List.map_nil]); first | done | rfl | (simp only [List.length_drop, List.length_take]; rfl)) ?_; (with_reducible refine (frame_isDisplay.calls a0_1 false _ A7.out).mono ?_); rintro e w' ⟨rfl, ⟨nd, rfl⟩⟩; refine ⟨_, rfl, ?_⟩))
     go_ret
     exact ⟨by first | rfl | (simp [errW_none, errW_some] <;> rfl) | (simp [*, errW_none, errW_some] <;> rfl), by repeat (first | (with_reducible first | exact HB.out | apply below_alloc | apply pw_below_drewN | apply below_drew1 | refine below_set ?_ GE311.out) | exact HB.out)⟩
   ·replace c6 := Bool.eq_false_iff.mpr c6
    subst c6
    have H1 : (if a0_0 = 2 then (if a0_1 = 0 then ((frame_isDisplay.f a0_2).bind fun t313 => (if t313 = true then (some ((l0_6.length : Int) == 0)) else (some false))) else (some false)) else (if a0_0 = 3 then (if a0_1 = 0 then ((frame_isDisplay.f a0_2).bind fun t314 => (if t314 = true then (some ((l0_5.length : Int) == 0)) else (some false))) else (some false)) else (if a0_0 = 4 then (if a0_1 = 0 then ((frame_isDisplay.f a0_2).bind fun t315 => (if t315 = true then (if (l0_5.length : Int) = 0 then (some ((l0_6.length : Int) == 0)) else (some false)) else (some false))) else (some false)) else (some false)))) = some r := by rw [if_neg (show ¬ (false = true) by decide)] at H; exact H
    clear H
    have H := H1
    clear H1
    by_cases c15 : a0_0 = 2
    ·rw [if_pos c15] at H
     have c15b0 : (a0_0 == 2) = true := beq_iff_eq.mpr c15
     have c15b1 : (a0_0 != 2) = false := bne_eq_false_iff_eq.mpr c15
     clear c15
     by_cases c16 : a0_1 = 0
     ·rw [if_pos c16] at H
      have c16b0 : (a0_1 == 0) = true := beq_iff_eq.mpr c16
      have c16b1 : (a0_1 != 0) = false := bne_eq_false_iff_eq.mpr c16
      clear c16
      replace H := Option.bind_eq_some_iff.mp H
      obtain ⟨t313, A170, H⟩ := H
      replace H : (if t313 = true then (some ((l0_6.length : Int) == 0)) else (some false)) = some r := H
      have A17 := Aside0.mk A170
      clear A170
      by_cases c18 : t313 = true
      ·subst c18
       have H1 : (some ((l0_6.length : Int) == 0)) = some r := by rw [if_pos rfl] at H; exact H
       clear H
       have H := H1
       clear H1
       obtain rfl := Option.some.inj H
       have hcz19_0 : wc.cell? ⟨gb311, 0, none⟩ = some (.int .i64 a0_0) := (blk_cell BK311.out 0).trans rfl
       have hcz19_1 : wc.cell? ⟨gb311, 1, none⟩ = some (.int .i64 a0_1) := (blk_cell BK311.out 1).trans rfl
       have hcz19_2 : wc.cell? ⟨gb311, 2, none⟩ = some (.int .i64 a0_2) := (blk_cell BK311.out 2).trans rfl
       have hcz19_3 : wc.cell? ⟨gb311, 3, none⟩ = some (.int .i64 a0_3) := (blk_cell BK311.out 3).trans rfl
       have hcz19_4 : wc.cell? ⟨gb311, 4, none⟩ = some (.int .i64 a0_4) := (blk_cell BK311.out 4).trans rfl
       have hcz19_5 : wc.cell? ⟨gb311, 5, none⟩ = some (.slice A0_5 l0_5.length c0_5) := (blk_cell BK311.out 5).trans rfl
       have hcz19_6 : wc.cell? ⟨gb311, 6, none⟩ = some (.slice A0_6 l0_6.length c0_6) := (blk_cell BK311.out 6).trans rfl
       have hfz19_0 := blk_frozen BK311.out 0
       have hfz19_1 := blk_frozen BK311.out 1
       have hfz19_2 := blk_frozen BK311.out 2
       have hfz19_3 := blk_frozen BK311.out 3
       have hfz19_4 := blk_frozen BK311.out 4
       have hfz19_5 := blk_frozen BK311.out 5
       have hfz19_6 := blk_frozen BK311.out 6
       go_wp2_with (first | (go_at_call 60; (with_reducible refine (frame_isDisplay.calls a0_2 true _ A17.out).mono ?_); rintro e w' ⟨rfl, ⟨nd, rfl⟩⟩))
       go_ret
       exact ⟨by first | rfl | (simp [errW_none, errW_some] <;> rfl) | (simp [*, errW_none, errW_some] <;> rfl), by repeat (first | (with_reducible first | exact HB.out | apply below_alloc | apply pw_below_drewN | apply below_drew1 | refine below_set ?_ GE311.out) | exact HB.out)⟩
      ·replace c18 := Bool.eq_false_iff.mpr c18
       subst c18
       have H1 : (some false) = some r := by rw [if_neg (show ¬ (false = true) by decide)] at H; exact H
       clear H
       have H := H1
       clear H1
       obtain rfl := Option.some.inj H
       have hcz20_0 : wc.cell? ⟨gb311, 0, none⟩ = some (.int .i64 a0_0) := (blk_cell BK311.out 0).trans rfl
       have hcz20_1 : wc.cell? ⟨gb311, 1, none⟩ = some (.int .i64 a0_1) := (blk_cell BK311.out 1).trans rfl
       have hcz20_2 : wc.cell? ⟨gb311, 2, none⟩ = some (.int .i64 a0_2) := (blk_cell BK311.out 2).trans rfl
       have hcz20_3 : wc.cell? ⟨gb311, 3, none⟩ = some (.int .i64 a0_3) := (blk_cell BK311.out 3).trans rfl
       have hcz20_4 : wc.cell? ⟨gb311, 4, none⟩ = some (.int .i64 a0_4) := (blk_cell BK311.out 4).trans rfl
       have hcz20_5 : wc.cell? ⟨gb311, 5, none⟩ = some (.slice A0_5 l0_5.length c0_5) := (blk_cell BK311.out 5).trans rfl
       have hcz20_6 : wc.cell? ⟨gb311, 6, none⟩ = some (.slice A0_6 l0_6.length c0_6) := (blk_cell BK311.out 6).trans rfl
       have hfz20_0 := blk_frozen BK311.out 0
       have hfz20_1 := blk_frozen BK311.out 1
       have hfz20_2 := blk_frozen BK311.out 2
       have hfz20_3 := blk_frozen BK311.out 3
       have hfz20_4 := blk_frozen BK311.out 4
       have hfz20_5 := blk_frozen BK311.out 5
       have hfz20_6 := blk_frozen BK311.out 6
       go_wp2_with (first | (go_at_call 60; (with_reducible refine (frame_isDisplay.calls a0_2 false _ A17.out).mono ?_); rintro e w' ⟨rfl, ⟨nd, rfl⟩⟩))
       go_ret
       exact ⟨by first | rfl | (simp [errW_none, errW_some] <;> rfl) | (simp [*, errW_none, errW_some] <;> rfl), by repeat (first | (with_reducible first | exact HB.out | apply below_alloc | apply pw_below_drewN | apply below_drew1 | refine below_set ?_ GE311.out) | exact HB.out)⟩
     ·rw [if_neg c16] at H
      have c16b0 : (a0_1 == 0) = false := beq_eq_false_iff_ne.mpr c16
      have c16b1 : (a0_1 != 0) = true := bne_iff_ne.mpr c16
      obtain rfl := Option.some.inj H
      have hcz21_0 : wc.cell? ⟨gb311, 0, none⟩ = some (.int .i64 a0_0) := (blk_cell BK311.out 0).trans rfl
      have hcz21_1 : wc.cell? ⟨gb311, 1, none⟩ = some (.int .i64 a0_1) := (blk_cell BK311.out 1).trans rfl
      have hcz21_2 : wc.cell? ⟨gb311, 2, none⟩ = some (.int .i64 a0_2) := (blk_cell BK311.out 2).trans rfl
      have hcz21_3 : wc.cell? ⟨gb311, 3, none⟩ = some (.int .i64 a0_3) := (blk_cell BK311.out 3).trans rfl
      have hcz21_4 : wc.cell? ⟨gb311, 4, none⟩ = some (.int .i64 a0_4) := (blk_cell BK311.out 4).trans rfl
      have hcz21_5 : wc.cell? ⟨gb311, 5, none⟩ = some (.slice A0_5 l0_5.length c0_5) := (blk_cell BK311.out 5).trans rfl
      have hcz21_6 : wc.cell? ⟨gb311, 6, none⟩ = some (.slice A0_6 l0_6.length c0_6) := (blk_cell BK311.out 6).trans rfl
      have hfz21_0 := blk_frozen BK311.out 0
      have hfz21_1 := blk_frozen BK311.out 1
      have hfz21_2 := blk_frozen BK311.out 2
      have hfz21_3 := blk_frozen BK311.out 3
      have hfz21_4 := blk_frozen BK311.out 4
      have hfz21_5 := blk_frozen BK311.out 5
      have hfz21_6 := blk_frozen BK311.out 6
      go_wp2
      go_ret
      exact ⟨by first | rfl | (simp [errW_none, errW_some] <;> rfl) | (simp [*, errW_none, errW_some] <;> rfl), by repeat (first | (with_reducible first | exact HB.out | apply below_alloc | apply pw_below_drewN | apply below_drew1 | refine below_set ?_ GE311.out) | exact HB.out)⟩
    ·rw [if_neg c15] at H
     have c15b0 : (a0_0 == 2) = false := beq_eq_false_iff_ne.mpr c15
     have c15b1 : (a0_0 != 2) = true := bne_iff_ne.mpr c15
     by_cases c22 : a0_0 = 3
     ·rw [if_pos c22] at H
      have c22b0 : (a0_0 == 3) = true := beq_iff_eq.mpr c22
      have c22b1 : (a0_0 != 3) = false := bne_eq_false_iff_eq.mpr c22
      clear c22
      by_cases c23 : a0_1 = 0
      ·rw [if_pos c23] at H
       have c23b0 : (a0_1 == 0) = true := beq_iff_eq.mpr c23
       have c23b1 : (a0_1 != 0) = false := bne_eq_false_iff_eq.mpr c23
       clear c23
       replace H := Option.bind_eq_some_iff.mp H
       obtain ⟨t314, A240, H⟩ := H
       replace H : (if t314 = true then (some ((l0_5.length : Int) == 0)) else (some false)) = some r := H
       have A24 := Aside0.mk A240
       clear A240
       by_cases c25 : t314 = true
       ·subst c25
        have H1 : (some ((l0_5.length : Int) == 0)) = some r := by rw [if_pos rfl] at H; exact H
        clear H
        have H := H1
        clear H1
        obtain rfl := Option.some.inj H
        have hcz26_0 : wc.cell? ⟨gb311, 0, none⟩ = some (.int .i64 a0_0) := (blk_cell BK311.out 0).trans rfl
        have hcz26_1 : wc.cell? ⟨gb311, 1, none⟩ = some (.int .i64 a0_1) := (blk_cell BK311.out 1).trans rfl
        have hcz26_2 : wc.cell? ⟨gb311, 2, none⟩ = some (.int .i64 a0_2) := (blk_cell BK311.out 2).trans rfl
        have hcz26_3 : wc.cell? ⟨gb311, 3, none⟩ = some (.int .i64 a0_3) := (blk_cell BK311.out 3).trans rfl
        have hcz26_4 : wc.cell? ⟨gb311, 4, none⟩ = some (.int .i64 a0_4) := (blk_cell BK311.out 4).trans rfl
        have hcz26_5 : wc.cell? ⟨gb311, 5, none⟩ = some (.slice A0_5 l0_5.length c0_5) := (blk_cell BK311.out 5).trans rfl
        have hcz26_6 : wc.cell? ⟨gb311, 6, none⟩ = some (.slice A0_6 l0_6.length c0_6) := (blk_cell BK311.out 6).trans rfl
        have hfz26_0 := blk_frozen BK311.out 0
        have hfz26_1 := blk_frozen BK311.out 1
        have hfz26_2 := blk_frozen BK311.out 2
        have hfz26_3 := blk_frozen BK311.out 3
        have hfz26_4 := blk_frozen BK311.out 4
        have hfz26_5 := blk_frozen BK311.out 5
        have hfz26_6 := blk_frozen BK311.out 6
        go_wp2_with (first | (go_at_call 60; (with_reducible refine (frame_isDisplay.calls a0_2 true _ A24.out).mono ?_); rintro e w' ⟨rfl, ⟨nd, rfl⟩⟩))
        go_ret
        exact ⟨by first | rfl | (simp [errW_none, errW_some] <;> rfl) | (simp [*, errW_none, errW_some] <;> rfl), by repeat (first | (with_reducible first | exact HB.out | apply below_alloc | apply pw_below_drewN | apply below_drew1 | refine below_set ?_ GE311.out) | exact HB.out)⟩
       ·replace c25 := Bool.eq_false_iff.mpr c25
        subst c25
        have H1 : (some false) = some r := by rw [if_neg (show ¬ (false = true) by decide)] at H; exact H
        clear H
        have H := H1
        clear H1
        obtain rfl := Option.some.inj H
        have hcz27_0 : wc.cell? ⟨gb311, 0, none⟩ = some (.int .i64 a0_0) := (blk_cell BK311.out 0).trans rfl
        have hcz27_1 : wc.cell? ⟨gb311, 1, none⟩ = some (.int .i64 a0_1) := (blk_cell BK311.out 1).trans rfl
        have hcz27_2 : wc.cell? ⟨gb311, 2, none⟩ = some (.int .i64 a0_2) := (blk_cell BK311.out 2).trans rfl
        have hcz27_3 : wc.cell? ⟨gb311, 3, none⟩ = some (.int .i64 a0_3) := (blk_cell BK311.out 3).trans rfl
        have hcz27_4 : wc.cell? ⟨gb311, 4, none⟩ = some (.int .i64 a0_4) := (blk_cell BK311.out 4).trans rfl
        have hcz27_5 : wc.cell? ⟨gb311, 5, none⟩ = some (.slice A0_5 l0_5.length c0_5) := (blk_cell BK311.out 5).trans rfl
        have hcz27_6 : wc.cell? ⟨gb311, 6, none⟩ = some (.slice A0_6 l0_6.length c0_6) := (blk_cell BK311.out 6).trans rfl
        have hfz27_0 := blk_frozen BK311.out 0
        have hfz27_1 := blk_frozen BK311.out 1
        have hfz27_2 := blk_frozen BK311.out 2
        have hfz27_3 := blk_frozen BK311.out 3
        have hfz27_4 := blk_frozen BK311.out 4
        have hfz27_5 := blk_frozen BK311.out 5
        have hfz27_6 := blk_frozen BK311.out 6
        go_wp2_with (first | (go_at_call 60; (with_reducible refine (frame_isDisplay.calls a0_2 false _ A24.out).mono ?_); rintro e w' ⟨rfl, ⟨nd, rfl⟩⟩))
        go_ret
        exact ⟨by first | rfl | (simp [errW_none, errW_some] <;> rfl) | (simp [*, errW_none, errW_some] <;> rfl), by repeat (first | (with_reducible first | exact HB.out | apply below_alloc | apply pw_below_drewN | apply below_drew1 | refine below_set ?_ GE311.out) | exact HB.out)⟩
      ·rw [if_neg c23] at H
       have c23b0 : (a0_1 == 0) = false := beq_eq_false_iff_ne.mpr c23
       have c23b1 : (a0_1 != 0) = true := bne_iff_ne.mpr c23
       obtain rfl := Option.some.inj H
       have hcz28_0 : wc.cell? ⟨gb311, 0, none⟩ = some (.int .i64 a0_0) := (blk_cell BK311.out 0).trans rfl
       have hcz28_1 : wc.cell? ⟨gb311, 1, none⟩ = some (.int .i64 a0_1) := (blk_cell BK311.out 1).trans rfl
       have hcz28_2 : wc.cell? ⟨gb311, 2, none⟩ = some (.int .i64 a0_2) := (blk_cell BK311.out 2).trans rfl
       have hcz28_3 : wc.cell? ⟨gb311, 3, none⟩ = some (.int .i64 a0_3) := (blk_cell BK311.out 3).trans rfl
       have hcz28_4 : wc.cell? ⟨gb311, 4, none⟩ = some (.int .i64 a0_4) := (blk_cell BK311.out 4).trans rfl
       have hcz28_5 : wc.cell? ⟨gb311, 5, none⟩ = some (.slice A0_5 l0_5.length c0_5) := (blk_cell BK311.out 5).trans rfl
       have hcz28_6 : wc.cell? ⟨gb311, 6, none⟩ = some (.slice A0_6 l0_6.length c0_6) := (blk_cell BK311.out 6).trans rfl
       have hfz28_0 := blk_frozen BK311.out 0
       have hfz28_1 := blk_frozen BK311.out 1
       have hfz28_2 := blk_frozen BK311.out 2
       have hfz28_3 := blk_frozen BK311.out 3
       have hfz28_4 := blk_frozen BK311.out 4
       have hfz28_5 := blk_frozen BK311.out 5
       have hfz28_6 := blk_frozen BK311.out 6
       go_wp2
       go_ret
       exact ⟨by first | rfl | (simp [errW_none, errW_some] <;> rfl) | (simp [*, errW_none, errW_some] <;> rfl), by repeat (first | (with_reducible first | exact HB.out | apply below_alloc | apply pw_below_drewN | apply below_drew1 | refine below_set ?_ GE311.out) | exact HB.out)⟩
     ·rw [if_neg c22] at H
      have c22b0 : (a0_0 == 3) = false := beq_eq_false_iff_ne.mpr c22
      have c22b1 : (a0_0 != 3) = true := bne_iff_ne.mpr c22
      by_cases c29 : a0_0 = 4
      ·rw [if_pos c29] at H
       have c29b0 : (a0_0 == 4) = true := beq_iff_eq.mpr c29
       have c29b1 : (a0_0 != 4) = false := bne_eq_false_iff_eq.mpr c29
       clear c29
       by_cases c30 : a0_1 = 0
       ·rw [if_pos c30] at H
        have c30b0 : (a0_1 == 0) = true := beq_iff_eq.mpr c30
        have c30b1 : (a0_1 != 0) = false := bne_eq_false_iff_eq.mpr c30
        clear c30
        replace H := Option.bind_eq_some_iff.mp H
        obtain ⟨t315, A310, H⟩ := H
        replace H : (if t315 = true then (if (l0_5.length : Int) = 0 then (some ((l0_6.length : Int) == 0)) else (some false)) else (some false)) = some r := H
        have A31 := Aside0.mk A310
        clear A310
        by_cases c32 : t315 = true
        ·subst c32
         have H1 : (if (l0_5.length : Int) = 0 then (some ((l0_6.length : Int) == 0)) else (some false)) = some r := by rw [if_pos rfl] at H; exact H
         clear H
         have H := H1
         clear H1
         by_cases c33 : (l0_5.length : Int) = 0
         ·rw [if_pos c33] at H
          have c33b0 : ((l0_5.length : Int) == 0) = true := beq_iff_eq.mpr c33
          have c33b1 : ((l0_5.length : Int) != 0) = false := bne_eq_false_iff_eq.mpr c33
          clear c33
          obtain rfl := Option.some.inj H
          have hcz34_0 : wc.cell? ⟨gb311, 0, none⟩ = some (.int .i64 a0_0) := (blk_cell BK311.out 0).trans rfl
          have hcz34_1 : wc.cell? ⟨gb311, 1, none⟩ = some (.int .i64 a0_1) := (blk_cell BK311.out 1).trans rfl
          have hcz34_2 : wc.cell? ⟨gb311, 2, none⟩ = some (.int .i64 a0_2) := (blk_cell BK311.out 2).trans rfl
          have hcz34_3 : wc.cell? ⟨gb311, 3, none⟩ = some (.int .i64 a0_3) := (blk_cell BK311.out 3).trans rfl
          have hcz34_4 : wc.cell? ⟨gb311, 4, none⟩ = some (.int .i64 a0_4) := (blk_cell BK311.out 4).trans rfl
          have hcz34_5 : wc.cell? ⟨gb311, 5, none⟩ = some (.slice A0_5 l0_5.length c0_5) := (blk_cell BK311.out 5).trans rfl
          have hcz34_6 : wc.cell? ⟨gb311, 6, none⟩ = some (.slice A0_6 l0_6.length c0_6) := (blk_cell BK311.out 6).trans rfl
          have hfz34_0 := blk_frozen BK311.out 0
          have hfz34_1 := blk_frozen BK311.out 1
          have hfz34_2 := blk_frozen BK311.out 2
          have hfz34_3 := blk_frozen BK311.out 3
          have hfz34_4 := blk_frozen BK311.out 4
          have hfz34_5 := blk_frozen BK311.out 5
          have hfz34_6 := blk_frozen BK311.out 6
          go_wp2_with (first | (go_at_call 60; (with_reducible refine (frame_isDisplay.calls a0_2 true _ A31.out).mono ?_); rintro e w' ⟨rfl, ⟨nd, rfl⟩⟩))
          go_ret
          exact ⟨by first | rfl | (simp [errW_none, errW_some] <;> rfl) | (simp [*, errW_none, errW_some] <;> rfl), by repeat (first | (with_reducible first | exact HB.out | apply below_alloc | apply pw_below_drewN | apply below_drew1 | refine below_set ?_ GE311.out) | exact HB.out)⟩
         ·rw [if_neg c33] at H
          have c33b0 : ((l0_5.length : Int) == 0) = false := beq_eq_false_iff_ne.mpr c33
          have c33b1 : ((l0_5.length : Int) != 0) = true := bne_iff_ne.mpr c33
          have c33b2 : ¬ (l0_5 = []) := fun h_ => c33 (by rw [h_]; rfl)
          obtain rfl := Option.some.inj H
          have hcz35_0 : wc.cell? ⟨gb311, 0, none⟩ = some (.int .i64 a0_0) := (blk_cell BK311.out 0).trans rfl
          have hcz35_1 : wc.cell? ⟨gb311, 1, none⟩ = some (.int .i64 a0_1) := (blk_cell BK311.out 1).trans rfl
          have hcz35_2 : wc.cell? ⟨gb311, 2, none⟩ = some (.int .i64 a0_2) := (blk_cell BK311.out 2).trans rfl
          have hcz35_3 : wc.cell? ⟨gb311, 3, none⟩ = some (.int .i64 a0_3) := (blk_cell BK311.out 3).trans rfl
          have hcz35_4 : wc.cell? ⟨gb311, 4, none⟩ = some (.int .i64 a0_4) := (blk_cell BK311.out 4).trans rfl
          have hcz35_5 : wc.cell? ⟨gb311, 5, none⟩ = some (.slice A0_5 l0_5.length c0_5) := (blk_cell BK311.out 5).trans rfl
          have hcz35_6 : wc.cell? ⟨gb311, 6, none⟩ = some (.slice A0_6 l0_6.length c0_6) := (blk_cell BK311.out 6).trans rfl
          have hfz35_0 := blk_frozen BK311.out 0
          have hfz35_1 := blk_frozen BK311.out 1
          have hfz35_2 := blk_frozen BK311.out 2
          have hfz35_3 := blk_frozen BK311.out 3
          have hfz35_4 := blk_frozen BK311.out 4
          have hfz35_5 := blk_frozen BK311.out 5
          have hfz35_6 := blk_frozen BK311.out 6
          go_wp2_with (first | (go_at_call 60; (with_reducible refine (frame_isDisplay.calls a0_2 true _ A31.out).mono ?_); rintro e w' ⟨rfl, ⟨nd, rfl⟩⟩))
          go_ret
          exact ⟨by first | rfl | (simp [errW_none, errW_some] <;> rfl) | (simp [*, errW_none, errW_some] <;> rfl), by repeat (first | (with_reducible first | exact HB.out | apply below_alloc | apply pw_below_drewN | apply below_drew1 | refine below_set ?_ GE311.out) | exact HB.out)⟩
        ·replace c32 := Bool.eq_false_iff.mpr c32
         subst c32
         have H1 : (some false) = some r := by rw [if_neg (show ¬ (false = true) by decide)] at H; exact H
         clear H
         have H := H1
         clear H1
         obtain rfl := Option.some.inj H
         have hcz36_0 : wc.cell? ⟨gb311, 0, none⟩ = some (.int .i64 a0_0) := (blk_cell BK311.out 0).trans rfl
         have hcz36_1 : wc.cell? ⟨gb311, 1, none⟩ = some (.int .i64 a0_1) := (blk_cell BK311.out 1).trans rfl
         have hcz36_2 : wc.cell? ⟨gb311, 2, none⟩ = some (.int .i64 a0_2) := (blk_cell BK311.out 2).trans rfl
         have hcz36_3 : wc.cell? ⟨gb311, 3, none⟩ = some (.int .i64 a0_3) := (blk_cell BK311.out 3).trans rfl
         have hcz36_4 : wc.cell? ⟨gb311, 4, none⟩ = some (.int .i64 a0_4) := (blk_cell BK311.out 4).trans rfl
         have hcz36_5 : wc.cell? ⟨gb311, 5, none⟩ = some (.slice A0_5 l0_5.length c0_5) := (blk_cell BK311.out 5).trans rfl
         have hcz36_6 : wc.cell? ⟨gb311, 6, none⟩ = some (.slice A0_6 l0_6.length c0_6) := (blk_cell BK311.out 6).trans rfl
         have hfz36_0 := blk_frozen BK311.out 0
         have hfz36_1 := blk_frozen BK311.out 1
         have hfz36_2 := blk_frozen BK311.out 2
         have hfz36_3 := blk_frozen BK311.out 3
         have hfz36_4 := blk_frozen BK311.out 4
         have hfz36_5 := blk_frozen BK311.out 5
         have hfz36_6 := blk_frozen BK311.out 6
         go_wp2_with (first | (go_at_call 60; (with_reducible refine (frame_isDisplay.calls a0_2 false _ A31.out).mono ?_); rintro e w' ⟨rfl, ⟨nd, rfl⟩⟩))
         go_ret
         exact ⟨by first | rfl | (simp [errW_none, errW_some] <;> rfl) | (simp [*, errW_none, errW_some] <;> rfl), by repeat (first | (with_reducible first | exact HB.out | apply below_alloc | apply pw_below_drewN | apply below_drew1 | refine below_set ?_ GE311.out) | exact HB.out)⟩
       ·rw [if_neg c30] at H
        have c30b0 : (a0_1 == 0) = false := beq_eq_false_iff_ne.mpr c30
        have c30b1 : (a0_1 != 0) = true := bne_iff_ne.mpr c30
        obtain rfl := Option.some.inj H
        have hcz37_0 : wc.cell? ⟨gb311, 0, none⟩ = some (.int .i64 a0_0) := (blk_cell BK311.out 0).trans rfl
        have hcz37_1 : wc.cell? ⟨gb311, 1, none⟩ = some (.int .i64 a0_1) := (blk_cell BK311.out 1).trans rfl
        have hcz37_2 : wc.cell? ⟨gb311, 2, none⟩ = some (.int .i64 a0_2) := (blk_cell BK311.out 2).trans rfl
        have hcz37_3 : wc.cell? ⟨gb311, 3, none⟩ = some (.int .i64 a0_3) := (blk_cell BK311.out 3).trans rfl
        have hcz37_4 : wc.cell? ⟨gb311, 4, none⟩ = some (.int .i64 a0_4) := (blk_cell BK311.out 4).trans rfl
        have hcz37_5 : wc.cell? ⟨gb311, 5, none⟩ = some (.slice A0_5 l0_5.length c0_5) := (blk_cell BK311.out 5).trans rfl
        have hcz37_6 : wc.cell? ⟨gb311, 6, none⟩ = some (.slice A0_6 l0_6.length c0_6) := (blk_cell BK311.out 6).trans rfl
        have hfz37_0 := blk_frozen BK311.out 0
        have hfz37_1 := blk_frozen BK311.out 1
        have hfz37_2 := blk_frozen BK311.out 2
        have hfz37_3 := blk_frozen BK311.out 3
        have hfz37_4 := blk_frozen BK311.out 4
        have hfz37_5 := blk_frozen BK311.out 5
        have hfz37_6 := blk_frozen BK311.out 6
        go_wp2
        go_ret
        exact ⟨by first | rfl | (simp [errW_none, errW_some] <;> rfl) | (simp [*, errW_none, errW_some] <;> rfl), by repeat (first | (with_reducible first | exact HB.out | apply below_alloc | apply pw_below_drewN | apply below_drew1 | refine below_set ?_ GE311.out) | exact HB.out)⟩
      ·rw [if_neg c29] at H
       have c29b0 : (a0_0 == 4) = false := beq_eq_false_iff_ne.mpr c29
       have c29b1 : (a0_0 != 4) = true := bne_iff_ne.mpr c29
       obtain rfl := Option.some.inj H
       go_wp2
       go_ret
       exact ⟨by first | rfl | (simp [errW_none, errW_some] <;> rfl) | (simp [*, errW_none, errW_some] <;> rfl), by repeat (first | (with_reducible first | exact HB.out | apply below_alloc | apply pw_below_drewN | apply below_drew1 | refine below_set ?_ GE311.out) | exact HB.out)⟩
end Go.Proofs.YtfpopmojlmpopaaDoor.G

end
