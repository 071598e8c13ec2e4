/-
  Part 1 of the proof: words about memory and rows, functions of the program as Lean functions with the contracts that its code comes to just their answers, and plain lemmas; no conditions of its own.
-/
import Derived.Test.YtfpopmojlmpopaaDoorProg
import Derived.Below
import Derived.Deep.Draws
import Derived.Deep.AppendLies
import Derived.Maps.AppendAt
import Derived.OwnWalk
import Derived.Laws.BytesArg
import Derived.Laws.MakeOwn
import Derived.Laws.OwnMore
import Derived.Deep.OwnRows
import Derived.Tactics
import Derived.Lib.ConvBytes
import Derived.Laws.Slices
import Derived.WalkKit
import Derived.KernelRfl
import Derived.RowKit3
import Derived.Deep.LoopGhost
import Derived.Deep.QuietTactic
import Derived.BigQuiet
import Derived.WideLaws
import Derived.Deep.DeepCutAuto
import Derived.Deep.CutBlock
import Derived.Deep.RegionHeld3
import Derived.Laws.Rows
import Derived.Lib.AppendStr
import Derived.ArgAppend
import Derived.Laws.IdiomCopy
import Derived.OrdersHeld
import Derived.Laws.BitsLemmas
import Derived.RowKit
import Derived.Lib.Hide
import Derived.Outline
import Derived.Laws.Closers25b
import Derived.Laws.BitsAllLaws
import Derived.Shelf.Strings.Builder1
import Derived.Shelf.Strings.Builder2
import Derived.Shelf.Strings.BuilderF
import Derived.Shelf.Strconv.Atoi
import Derived.Shelf.Strconv.Itoa0
import Derived.Shelf.Strconv.Itoa1
import Derived.Shelf.LaysM
import Derived.Shelf.Strconv.Itoa2
import Derived.Shelf.Strconv.Itoa3
import Derived.Shelf.Strconv.AtoiErrFast
import Derived.Shelf.Strconv.ParseIntEmpty
import Derived.Shelf.Strconv.AtoiFail
import Derived.Shelf.Strconv.Clone
import Derived.Shelf.Strconv.SyntaxError
import Derived.Shelf.LaysC
import Derived.Shelf.Strconv.ToError
import Derived.Shelf.Strconv.Lower
import Derived.Shelf.Strconv.ParseUint10
import Derived.Shelf.Strconv.ParseUint10Empty
import Derived.Shelf.Strconv.ParseUint10Any
import Derived.Shelf.Strconv.ParseInt10
import Derived.Shelf.Strconv.AtoiLong
import Derived.Shelf.Strconv.AtoiInnerAll
import Derived.Shelf.Strconv.RangeError
import Derived.Shelf.Strconv.ToErrorRange
import Derived.Shelf.Strconv.AtoiAll
import Derived.Shelf.Strconv.ErrVarAll
import Derived.Shelf.Strconv.ParseUintEmpty
import Derived.Shelf.Strconv.ParseUint10b64
import Derived.Shelf.Strconv.ParseUint10b32
import Derived.Shelf.Strconv.ParseUint10b16
import Derived.Shelf.Strconv.ParseUint10b8
import Derived.Shelf.Strconv.ParseUint10At
import Derived.Shelf.Strconv.ParseInt10At64
import Derived.Shelf.Strconv.ParseInt10At32
import Derived.Shelf.Strconv.ParseInt10At16
import Derived.Shelf.Strconv.ParseInt10At8
import Derived.Shelf.Strconv.ParseInt10All
import Derived.Shelf.Strconv.ParseIntPublic10
import Derived.Shelf.Strconv.ErrVarParseInt
import Derived.Shelf.Strconv.AppendUint10
import Derived.Shelf.Strconv.AppendInt10
import Derived.Shelf.Strconv.AppendIntPublic10
import Derived.Shelf.Strings.Prefix
import Derived.Shelf.Bits.Mul64
import Derived.Shelf.Strings.Repeat
import Derived.Shelf.Slices.Equal
import Derived.Shelf.Slices.Empties2
import Derived.Lib.BufferKept
import Derived.Lib.UnsafeStr
import Derived.Lib.OwnKind
import Derived.Lib.Slices
import Derived.BigCall
import Derived.BigGuard
import Derived.CellFam
import Derived.Laws.StructEq
import Derived.Test.YtfpopmojlmpopaaDoorRows
import Derived.Test.YtfpopmojlmpopaaDoorChecked
import Derived.ProofKit
import Derived.OpenShut
import Derived.ShutString
import Derived.ChangeOld
import Derived.SizedLaws
import Derived.Carry
import Derived.MakeChecks
import Derived.Lay
import Derived.Deep.Slices
import Derived.Deep.Strs
import Derived.Lib.LaidTab
import Derived.Stop.LaidErr
import Derived.Test.YtfpopmojlmpopaaDoorBMk0
section
namespace Go.Proofs.YtfpopmojlmpopaaDoor.H
open Go.RowKit Go.Proofs.YtfpopmojlmpopaaDoorW.PrintWords Go.Proofs.YtfpopmojlmpopaaDoorW.PrintLast Go.Proofs.YtfpopmojlmpopaaDoorW.PrintMore
set_option linter.unusedVariables false
def stepc (s : Int) : Int := if (bits BinOp.and IntKind.u16 s 32768 != 0) = true then bits BinOp.xor IntKind.u16 (IntKind.u16.wrap (s * 2)) 4129 else IntKind.u16.wrap (s * 2)
def itc : Nat → Int → Int
 | 0, s => s
 | n + 1, s => stepc (itc n s)
def eff (b : Nat) : Int := itc 8 ((b : Int) * 256)
def effTab : List Int := (List.range 256).map eff
theorem below_setRow {B : Nat} {a w : World} (h : Below B a w) {g : Nat} (hg : B ≤ g) (cs : Array Value) : Below B a (w.setRow g cs) :=
 h.trans ⟨rfl, rfl, rfl, by simp, fun k hk => setRow_other w g k cs (by omega)⟩
def EffRow (w : World) (k : Nat) (wr : World) : Prop := ∃ arr : Array Value, wr.heap[w.heap.size]? = some (.cells arr 53 (0, 0)) ∧ arr.size = 256 ∧ (∀ j, j < k → arr[j]? = some (.int .u16 (eff j))) ∧ (∀ j, k ≤ j → j < 256 → arr[j]? = some (.int .u16 0)) ∧ Below w.heap.size w wr
theorem EffRow.start (w : World) : EffRow w 0 (w.alloc (.cells Tryd.zeroCells53 53)) := by
 have hz : Tryd.zeroCells53 = Array.replicate 256 (.int .u16 0) := by kernel_rfl
 refine ⟨_, heap_alloc_new _ _, by rw [hz]; simp, fun j h => absurd h (Nat.not_lt_zero _), fun j _ h => by rw [hz]; simp [h], (Below.refl _ _).alloc (Nat.le_refl _) _⟩
theorem EffRow.store {w wr : World} {k : Nat} (h : EffRow w k wr) (hk : k < 256) : EffRow w (k + 1) (wr.setCell ⟨w.heap.size, k, none⟩ (.int .u16 (eff k))) := by
 obtain ⟨arr, h1, h2, h3, h4, h5⟩ := h
 refine ⟨_, heap_setCell_same _ _ _ _ _ _ h1, by simpa using h2, fun j hj => ?_, fun j hj hj2 => ?_, h5.setCell (Nat.le_refl _) _⟩
 ·by_cases e : k = j
  ·subst e; simp [h2, hk]
  ·rw [Array.getElem?_setIfInBounds_ne e]; exact h3 j (by omega)
 ·rw [Array.getElem?_setIfInBounds_ne (by omega)]; exact h4 j (by omega) hj2
theorem EffRow.cell {w wr : World} {k : Nat} (h : EffRow w k wr) (hk : k < 256) : wr.cell? ⟨w.heap.size, k, none⟩ = some (.int .u16 0) := by
 obtain ⟨arr, h1, h2, h3, h4, h5⟩ := h
 rw [cell_of_row _ _ _ _ _ _ h1]; exact h4 k (Nat.le_refl _) hk
theorem EffRow.free {w wr : World} {k : Nat} (h : EffRow w k wr) (j : Nat) : wr.frozen? ⟨w.heap.size, j, none⟩ = false := by
 obtain ⟨arr, h1, h2, h3, h4, h5⟩ := h
 exact frozen_of_row _ _ _ _ _ h1
theorem EffRow.full {w wr : World} (h : EffRow w 256 wr) : wr.heap[w.heap.size]? = some (.cells (nums .u16 effTab).toArray 53 (0, 0)) ∧ Below w.heap.size w wr := by
 obtain ⟨arr, h1, h2, h3, h4, h5⟩ := h
 refine ⟨?_, h5⟩
 have e : arr = (nums .u16 effTab).toArray := by
  apply Array.ext_getElem?
  intro i
  by_cases hi : i < 256
  ·rw [h3 i hi]; simp [nums, effTab, hi]
  ·rw [Array.getElem?_eq_none (by omega)]; simp [nums, effTab, hi]
 rw [h1, e]
theorem effTab_length : effTab.length = 256 := by simp [effTab]
theorem effArr_size : (nums .u16 effTab).toArray.size = 256 := by simp [nums, effTab_length]
theorem effArr_one : (nums .u16 effTab).toArray.all (·.oneCell') = true := by
 simp [nums, Value.oneCell']
set_option maxHeartbeats 400000 in
set_option maxRecDepth 100000 in
theorem effects_calls (w : World) : Calls Tryd.prog 27 #[] w fun e w' => e = .returned (.agg (nums .u16 effTab).toArray) ∧ Below w.heap.size w w' := by
 go_enter Tryd.func27, Tryd.ntmps27
 go_wp2_with fail
 go_loopw [4] (fun v wr => ∃ k : Nat, k ≤ 256 ∧ v = .int .i64 k ∧ EffRow w k wr) (fun v _ => 256 - (intOf v).toNat)
 case atStart => exact ⟨0, by omega, rfl, EffRow.start w⟩
 case round =>
  obtain ⟨k, hk, rfl, hE⟩ := hrel
  have HE := Lib.hid hE
  clear hE
  by_cases hlt : k < 256
  ·go_wp2_with fail
   obtain ⟨wo, rfl⟩ : ∃ wo : World, wo = wr := ⟨_, rfl⟩
   go_loop [2, 10] (fun s v => ∃ j : Nat, j ≤ 8 ∧ v = .int .i64 j ∧ s = .int .u16 (itc j ((k : Int) * 256))) (fun _ v => 8 - (intOf v).toNat)
   case atStart => exact ⟨0, by omega, rfl, rfl⟩
   case round =>
    obtain ⟨j, hj, rfl, rfl⟩ := hrel
    by_cases hl2 : j < 8
    ·go_wp2_with fail
     ·have hb : (bits BinOp.and IntKind.u16 (itc j (↑k * 256)) 32768 != 0) = true := by assumption
      go_round
      case rel => exact ⟨j + 1, by omega, by go_num, by simp only [itc, stepc]; rw [if_pos hb]⟩
      case measure => simp [intOf]; omega
     ·have hb : (bits BinOp.and IntKind.u16 (itc j (↑k * 256)) 32768 != 0) = false := by assumption
      go_round
      case rel => exact ⟨j + 1, by omega, by go_num, by simp only [itc, stepc]; rw [if_neg (by rw [hb]; exact Bool.false_ne_true)]⟩
      case measure => simp [intOf]; omega
    ·have hcell := EffRow.cell HE.out hlt
     have hfz := EffRow.free HE.out k
     obtain rfl : j = 8 := by omega
     go_wp2_with fail
     go_roundw
     case rel => exact ⟨k + 1, by omega, by go_num, EffRow.store HE.out hlt⟩
     case measure => simp [intOf]; omega
  ·obtain rfl : k = 256 := by omega
   obtain ⟨hg, hb⟩ := EffRow.full HE.out
   have HG := Lib.hid hg
   have HB := Lib.hid hb
   clear hg hb HE
   go_wp2_with (first
    | (with_reducible refine wpList_load_row rfl _ _ rfl w.heap.size rfl 53 (nums .u16 effTab).toArray (0, 0) _ HG.out Tryd.underlying53 rfl (by rw [effArr_size]; kernel_rfl) ?_)
    | (with_reducible refine wpList_store_row rfl _ _ _ rfl w.heap.size (nums .u16 effTab).toArray rfl rfl 53 _ HG.out (by rw [effArr_size]; kernel_rfl) rfl effArr_one ?_))
   exact bodyPost_ret (v := .agg (nums .u16 effTab).toArray) (results_cell_row rfl _ _ w.heap.size 53 _ (0, 0) _ rfl (setRow_heap _ _ _ _ _ _ HG.out) Tryd.underlying53 rfl (by rw [effArr_size]; kernel_rfl)) rfl ⟨rfl, below_setRow HB.out (Nat.le_refl _) _⟩
def sumStep (s x : Int) : Int := bits .xor .u16 (IntKind.u16.wrap (s * 256)) (rd effTab (bits .xor .u8 ((s / 256) % 256) x))
def crcL (s : Int) (l : List Int) : Int := l.foldl sumStep s
def okBytes (l : List Int) : Bool := l.all (fun x => decide (0 ≤ x) && decide (x ≤ 255)) && decide (l.length ≤ 140737488351232)
def frame_Sum.f (l0 : List Int) : Option Int := if okBytes l0 = true then some (crcL 65535 l0) else none
theorem okBytes_at {l : List Int} (h : okBytes l = true) (i : Nat) (hi : i < l.length) : 0 ≤ rd l i ∧ rd l i ≤ 255 := by
 simp only [okBytes, Bool.and_eq_true, List.all_eq_true, decide_eq_true_eq] at h
 have := h.1 l[i] (List.getElem_mem hi)
 simpa [rd, List.getD, hi] using this
theorem okBytes_len {l : List Int} (h : okBytes l = true) : l.length ≤ 140737488351232 := by
 simp only [okBytes, Bool.and_eq_true, decide_eq_true_eq] at h; exact h.2
theorem crc_snoc (s : Int) (l : List Int) (k : Nat) (hk : k < l.length) : crcL s (l.take (k + 1)) = sumStep (crcL s (l.take k)) (rd l k) := by
 rw [List.take_succ_eq_append_getElem hk, crcL, List.foldl_append]
 simp [crcL, rd, List.getD, hk]
theorem effCell {W : World} {g : Nat} (hg : W.heap[g]? = some (.cells (nums .u16 effTab).toArray 53 (0, 0))) (i : Int) (h0 : 0 ≤ i) (h1 : i ≤ 255) : W.cell? ⟨g, i.toNat, none⟩ = some (.int .u16 (rd effTab i)) := by
 rw [cell_of_row _ _ _ _ _ _ hg]
 have hl : i.toNat < effTab.length := by rw [effTab_length]; omega
 simp [nums, rd, List.getD, hl]
set_option maxHeartbeats 400000 in
set_option maxRecDepth 100000 in
theorem frame_Sum.calls (A0 : Option Addr) (c0 : Nat) (l0 : List Int) (r : Int) (w : World) (hr0 : Kd.C (Kd.int .u8) w A0 l0.length l0) (hc0 : l0.length ≤ c0) (h : frame_Sum.f l0 = some r) :
  Calls Tryd.prog 11 #[.slice A0 l0.length c0] w fun e w' => e = .returned (.int .u16 r) ∧ Below w.heap.size w w' := by
 have hok : okBytes l0 = true := by
  unfold frame_Sum.f at h; split at h
  ·assumption
  ·cases h
 have hrr : crcL 65535 l0 = r := by
  unfold frame_Sum.f at h; rw [if_pos hok] at h; exact Option.some.inj h
 have HR := Lib.hid hrr
 have HK := Lib.hid hok
 have HC := Lib.hid hr0
 have hlen := okBytes_len hok
 clear h hrr hok hr0
 go_enter Tryd.func11, Tryd.ntmps11
 go_wp2_with fail
 refine (effects_calls _).mono ?_
 rintro e w1 ⟨rfl, hb1⟩
 have HB1 := Lib.hid hb1
 clear hb1
 go_wp2_with (first
    | (with_reducible refine wpList_store_row rfl _ _ _ rfl w1.heap.size (nums .u16 effTab).toArray rfl rfl 53 _ (heap_alloc_new _ _) (by rw [effArr_size]; kernel_rfl) (by rw [effArr_size]; kernel_rfl) effArr_one ?_))
 obtain ⟨W2, hW2⟩ : ∃ W2 : World, (w1.alloc (Obj.cells Tryd.zeroCells53 53)).setRow w1.heap.size (nums IntKind.u16 effTab).toArray = W2 := ⟨_, rfl⟩
 have HB2 : Hid (Below w.heap.size w W2) := Lib.hid (by rw [← hW2]; exact below_setRow ((HB1.out).alloc HB1.out.size _) HB1.out.size _)
 have HG2 : Hid (W2.heap[w1.heap.size]? = some (.cells (nums .u16 effTab).toArray 53 (0, 0))) := Lib.hid (by rw [← hW2]; exact setRow_heap _ _ _ _ _ _ (heap_alloc_new _ _))
 have HC2 : Hid (Kd.C (Kd.int .u8) W2 A0 l0.length l0) := Lib.hid (Kd.C_below HC.out HB2.out)
 rw [hW2]
 clear hW2 HC
 go_loop [4, 10] (fun s v => ∃ k : Nat, k ≤ l0.length ∧ v = .int .i64 k ∧ s = .int .u16 (crcL 65535 (l0.take k))) (fun _ v => l0.length - (intOf v).toNat)
 case atStart => exact ⟨0, by omega, rfl, rfl⟩
 case round =>
  obtain ⟨k, hk, rfl, rfl⟩ := hrel
  by_cases hlt : k < l0.length
  ·obtain ⟨ad, rfl, hcell⟩ := Kd.at_int HC2.out k (by omega) (by omega)
   have hby := okBytes_at HK.out k hlt
   have hsn := Lib.hid (crc_snoc 65535 l0 k hlt)
   rw [Int.toNat_natCast] at hcell
   have i0 := bits_lo_u8 .xor (crcL 65535 (List.take k l0) / 256 % 256) (rd l0 ↑k)
   have i1 := bits_hi_u8 .xor (crcL 65535 (List.take k l0) / 256 % 256) (rd l0 ↑k)
   have i2 : (0 ≤ bits .xor .u8 (crcL 65535 (List.take k l0) / 256 % 256) (rd l0 ↑k) ∧ bits .xor .u8 (crcL 65535 (List.take k l0) / 256 % 256) (rd l0 ↑k) < 256) = True := eq_true ⟨i0, by omega⟩
   have hec := effCell HG2.out _ i0 i1
   go_wp2_with fail
   go_round
   case rel => exact ⟨k + 1, by omega, by go_num, by rw [hsn.out]; rfl⟩
   case measure => simp [intOf]; omega
  ·go_wp2_with fail
   go_ret
   exact ⟨by rw [← HR.out]; rw [List.take_of_length_le (by omega)]; rfl, HB2.out⟩
theorem nib (s : Int) (h0 : 0 ≤ s) (h1 : s ≤ 65535) : 0 ≤ bits BinOp.and IntKind.u16 s 15 ∧ bits BinOp.and IntKind.u16 s 15 < 16 := by
 rw [u16_and s 15 h0 (by omega) (by omega) (by omega)]
 have : s.toNat &&& (15 : Int).toNat ≤ 15 := Nat.and_le_right
 omega
def dgt (s : Int) : Int := bt ⟨#[48, 49, 50, 51, 52, 53, 54, 55, 56, 57, 97, 98, 99, 100, 101, 102]⟩ (bits BinOp.and IntKind.u16 s 15)
def digs (s : Int) : List Int := [dgt (s / 4096), dgt (s / 256), dgt (s / 16), dgt s]
set_option maxHeartbeats 1000000 in
theorem digits_calls (s : Int) (h0 : 0 ≤ s) (h1 : s ≤ 65535) (w : World) : Calls Tryd.prog 34 #[.int .u16 s] w fun e w' => e = .returned (.agg #[.int .u8 (dgt (s / 4096)), .int .u8 (dgt (s / 256)), .int .u8 (dgt (s / 16)), .int .u8 (dgt s)]) ∧ Below w.heap.size w w' := by
 have n1 := eq_true (nib (s / 4096) (by omega) (by omega))
 have n2 := eq_true (nib (s / 256) (by omega) (by omega))
 have n3 := eq_true (nib (s / 16) (by omega) (by omega))
 have n4 := eq_true (nib s h0 h1)
 have x1 := bt_at ⟨#[48, 49, 50, 51, 52, 53, 54, 55, 56, 57, 97, 98, 99, 100, 101, 102]⟩ (bits BinOp.and IntKind.u16 (s / 4096) 15)
 have x2 := bt_at ⟨#[48, 49, 50, 51, 52, 53, 54, 55, 56, 57, 97, 98, 99, 100, 101, 102]⟩ (bits BinOp.and IntKind.u16 (s / 256) 15)
 have x3 := bt_at ⟨#[48, 49, 50, 51, 52, 53, 54, 55, 56, 57, 97, 98, 99, 100, 101, 102]⟩ (bits BinOp.and IntKind.u16 (s / 16) 15)
 have x4 := bt_at ⟨#[48, 49, 50, 51, 52, 53, 54, 55, 56, 57, 97, 98, 99, 100, 101, 102]⟩ (bits BinOp.and IntKind.u16 s 15)
 go_enter Tryd.func34, Tryd.ntmps34
 go_wp2_with fail
 refine wp_loop_rounds 5 ?_
 rw [rounds_succ]
 go_wp2_with fail
 rw [rounds_succ]
 go_wp2_with fail
 rw [rounds_succ]
 go_wp2_with fail
 rw [rounds_succ]
 go_wp2_with fail
 rw [rounds_succ]
 go_wp2_with fail
 refine bodyPost_ret (v := .agg #[.int .u8 (dgt (s / 4096)), .int .u8 (dgt (s / 256)), .int .u8 (dgt (s / 16)), .int .u8 (dgt s)]) (by simp [results, Tryd.results34, go_sem, dgt]) rfl ⟨rfl, ?_⟩
 exact ((Below.refl _ _).alloc (Nat.le_refl _) _).alloc (by simp) _
theorem crcL_range (s : Int) (l : List Int) (h0 : 0 ≤ s) (h1 : s ≤ 65535) : 0 ≤ crcL s l ∧ crcL s l ≤ 65535 := by
 induction l generalizing s with
 | nil => exact ⟨h0, h1⟩
 | cons x l ih => exact ih (sumStep s x) (bits_lo_u16 _ _ _) (bits_hi_u16 _ _ _)
theorem frame_Sum.range {l : List Int} {r : Int} (h : frame_Sum.f l = some r) : 0 ≤ r ∧ r ≤ 65535 := by
 unfold frame_Sum.f at h
 split at h
 ·cases h; exact crcL_range _ _ (by decide) (by decide)
 ·cases h
end Go.Proofs.YtfpopmojlmpopaaDoor.H

end
section
namespace Go.Proofs
open Go.Shelf
set_option linter.unusedVariables false
def Tryd.lays283_ren : Go.Shelf.Ren := ⟨fun | 283 => 81 | n => n, fun | 3 => 3 | 9 => 9 | 4 => 4 | n => n, fun | n => n⟩
theorem Tryd.lays283 : Go.Proofs.Lays.n283 Tryd.prog Tryd.lays283_ren := {
 mixed := by kernel_rfl
 f283 := Tryd.func81.trans (congrArg some (by kernel_rfl))
 t3 := Tryd.underlying3
 a3 := Tryd.isAgg3
 z3 := Tryd.sizeOf3
 v3 := Tryd.zeroValue3
 t4 := Tryd.underlying4
 a4 := Tryd.isAgg4
 z4 := Tryd.sizeOf4
 v4 := Tryd.zeroValue4
 t9 := Tryd.underlying9
 a9 := Tryd.isAgg9
 z9 := Tryd.sizeOf9
 v9 := Tryd.zeroValue9 }
open Go.Lib in
theorem Tryd.internal_strconv_small (i : Nat) (h : i < 100) (w : World) :
  Calls Tryd.prog 81 #[.int .i64 i] w fun e w' => e = .returned (.string ⟨(Lib.decDigits i).toArray⟩) ∧ w' = w := Any.internal_strconv_small Tryd.lays283 i h w
def Tryd.laysM284_ren : Go.Shelf.Ren := ⟨fun | 284 => 82 | 129 => 94 | 317 => 93 | 318 => 95 | n => n, fun | 53 => 111 | 3 => 3 | 212 => 136 | 0 => 0 | 4 => 4 | 46 => 36 | 5 => 5 | 9 => 9 | n => n, fun | 17 => 0 | n => n⟩
theorem Tryd.laysM284 : Go.Proofs.LaysM.n284 Tryd.prog Tryd.laysM284_ren := {
 mixed := by kernel_rfl
 f129 := Tryd.func94.trans (congrArg some (by kernel_rfl))
 f284 := Tryd.func82.trans (congrArg some (by kernel_rfl))
 f317 := Tryd.func93.trans (congrArg some (by kernel_rfl))
 f318 := Tryd.func95.trans (congrArg some (by kernel_rfl))
 t0 := Tryd.underlying0
 a0 := Tryd.isAgg0
 z0 := Tryd.sizeOf0
 v0 := Tryd.zeroValue0
 t3 := Tryd.underlying3
 a3 := Tryd.isAgg3
 z3 := Tryd.sizeOf3
 v3 := Tryd.zeroValue3
 t4 := Tryd.underlying4
 a4 := Tryd.isAgg4
 z4 := Tryd.sizeOf4
 v4 := Tryd.zeroValue4
 t5 := Tryd.underlying5
 a5 := Tryd.isAgg5
 z5 := Tryd.sizeOf5
 v5 := Tryd.zeroValue5
 t9 := Tryd.underlying9
 a9 := Tryd.isAgg9
 z9 := Tryd.sizeOf9
 v9 := Tryd.zeroValue9
 t46 := Tryd.underlying36
 a46 := Tryd.isAgg36
 z46 := Tryd.sizeOf36
 v46 := Tryd.zeroValue36
 t53 := Tryd.underlying111
 a53 := Tryd.isAgg111
 z53 := Tryd.sizeOf111
 v53 := Tryd.zeroValue111
 t212 := Tryd.underlying136
 a212 := Tryd.isAgg136
 z212 := Tryd.sizeOf136
 v212 := Tryd.zeroValue136
 g17 := by kernel_rfl
 i0 := by kernel_rfl
 i3 := by kernel_rfl
 i4 := by kernel_rfl
 i5 := by kernel_rfl
 i9 := by kernel_rfl
 i46 := by kernel_rfl
 i53 := by kernel_rfl
 i212 := by kernel_rfl
 m17 := by kernel_rfl }
open Go.Lib in
theorem Tryd.internal_strconv_numDigits (u : Nat) (h1 : 1 ≤ u) (h2 : u < 18446744073709551616) (w : World) (htab : Lib.TabIs Tryd.prog w "internal/strconv.uint64pow10" .u64 Lib.pow10Tab) :
  Calls Tryd.prog 82 #[.int .u64 u] w fun e w' => e = .returned (.int .i64 (Lib.nDigits u)) ∧ w' = w := Any.internal_strconv_numDigits Tryd.laysM284 u h1 h2 w htab
def Tryd.lays285_ren : Go.Shelf.Ren := ⟨fun | 285 => 83 | n => n, fun | 37 => 22 | 53 => 111 | 3 => 3 | 4 => 4 | 51 => 113 | 9 => 9 | 5 => 5 | 0 => 0 | n => n, fun | n => n⟩
theorem Tryd.lays285 : Go.Proofs.Lays.n285 Tryd.prog Tryd.lays285_ren := {
 mixed := by kernel_rfl
 f285 := Tryd.func83.trans (congrArg some (by kernel_rfl))
 t0 := Tryd.underlying0
 a0 := Tryd.isAgg0
 z0 := Tryd.sizeOf0
 v0 := Tryd.zeroValue0
 t3 := Tryd.underlying3
 a3 := Tryd.isAgg3
 z3 := Tryd.sizeOf3
 v3 := Tryd.zeroValue3
 t4 := Tryd.underlying4
 a4 := Tryd.isAgg4
 z4 := Tryd.sizeOf4
 v4 := Tryd.zeroValue4
 t5 := Tryd.underlying5
 a5 := Tryd.isAgg5
 z5 := Tryd.sizeOf5
 v5 := Tryd.zeroValue5
 t9 := Tryd.underlying9
 a9 := Tryd.isAgg9
 z9 := Tryd.sizeOf9
 v9 := Tryd.zeroValue9
 t37 := Tryd.underlying22
 a37 := Tryd.isAgg22
 z37 := Tryd.sizeOf22
 v37 := Tryd.zeroValue22
 t51 := Tryd.underlying113
 a51 := Tryd.isAgg113
 z51 := Tryd.sizeOf113
 v51 := Tryd.zeroValue113
 t53 := Tryd.underlying111
 a53 := Tryd.isAgg111
 z53 := Tryd.sizeOf111
 v53 := Tryd.zeroValue111 }
open Go.RowKit Go.Sort Go.Lib in
theorem Tryd.internal_strconv_formatBase10 (blk off cap : Nat) (u : Nat) (d : Array UInt8) (w : World) (hH : Holds (fun (b : UInt8) => Value.int .u8 (b.toNat : Int)) w blk off d) (hu : u < 10 ^ d.size) (hu64 : u < 18446744073709551616) (hsz : d.size < 4611686018427387904) :
  Calls Tryd.prog 83 #[.slice (some ⟨blk, off, none⟩) d.size cap, .int .u64 u] w fun e w' =>
   e = .returned (.tuple #[]) ∧ ∃ (n v' : Nat) (dk : Array UInt8), w' = (putRow (fun (b : UInt8) => Value.int .u8 (b.toNat : Int)) w blk off dk).drewN n ∧ FmtInv d.size u 0 v' dk := Any.internal_strconv_formatBase10 Tryd.lays285 blk off cap u d w hH hu hu64 hsz
def Tryd.laysC172_ren : Go.Shelf.Ren := ⟨fun | 172 => 80 | 244 => 92 | 245 => 79 | 247 => 78 | 279 => 88 | 280 => 89 | 281 => 90 | 282 => 91 | 287 => 87 | 316 => 100 | 171 => 102 | 205 => 101 | 321 => 98 | 322 => 99 | 243 => 105 | 246 => 106 | 283 => 81 | 284 => 82 | 285 => 83 | 286 => 84 | 129 => 94 | 317 => 93 | 318 => 95 | 319 => 96 | 320 => 97 | 337 => 103 | 338 => 104 | n => n, fun | 9 => 9 | 3 => 3 | 75 => 101 | 76 => 102 | 4 => 4 | 5 => 5 | 167 => 128 | 37 => 22 | 0 => 0 | 85 => 107 | 2 => 2 | 168 => 131 | 53 => 111 | 175 => 129 | 46 => 36 | 210 => 143 | 127 => 118 | 145 => 148 | 143 => 146 | 21 => 21 | 171 => 83 | 173 => 123 | 212 => 136 | 51 => 113 | 20 => 20 | 213 => 137 | 232 => 149 | 233 => 150 | 80 => 62 | n => n, fun | 15 => 2 | 16 => 3 | 17 => 0 | 18 => 4 | 19 => 5 | n => n⟩
theorem Tryd.laysC172 : Go.Proofs.LaysC.n172 Tryd.prog Tryd.laysC172_ren := {
 mixed := by kernel_rfl
 f129 := Tryd.func94.trans (congrArg some (by kernel_rfl))
 f171 := Tryd.func102.trans (congrArg some (by kernel_rfl))
 f172 := Tryd.func80.trans (congrArg some (by kernel_rfl))
 f205 := Tryd.func101.trans (congrArg some (by kernel_rfl))
 f243 := Tryd.func105.trans (congrArg some (by kernel_rfl))
 f244 := Tryd.func92.trans (congrArg some (by kernel_rfl))
 f245 := Tryd.func79.trans (congrArg some (by kernel_rfl))
 f246 := Tryd.func106.trans (congrArg some (by kernel_rfl))
 f247 := Tryd.func78.trans (congrArg some (by kernel_rfl))
 f279 := Tryd.func88.trans (congrArg some (by kernel_rfl))
 f280 := Tryd.func89.trans (congrArg some (by kernel_rfl))
 f281 := Tryd.func90.trans (congrArg some (by kernel_rfl))
 f282 := Tryd.func91.trans (congrArg some (by kernel_rfl))
 f283 := Tryd.func81.trans (congrArg some (by kernel_rfl))
 f284 := Tryd.func82.trans (congrArg some (by kernel_rfl))
 f285 := Tryd.func83.trans (congrArg some (by kernel_rfl))
 f286 := Tryd.func84.trans (congrArg some (by kernel_rfl))
 f287 := Tryd.func87.trans (congrArg some (by kernel_rfl))
 f316 := Tryd.func100.trans (congrArg some (by kernel_rfl))
 f317 := Tryd.func93.trans (congrArg some (by kernel_rfl))
 f318 := Tryd.func95.trans (congrArg some (by kernel_rfl))
 f319 := Tryd.func96.trans (congrArg some (by kernel_rfl))
 f320 := Tryd.func97.trans (congrArg some (by kernel_rfl))
 f321 := Tryd.func98.trans (congrArg some (by kernel_rfl))
 f322 := Tryd.func99.trans (congrArg some (by kernel_rfl))
 f337 := Tryd.func103.trans (congrArg some (by kernel_rfl))
 f338 := Tryd.func104.trans (congrArg some (by kernel_rfl))
 t0 := Tryd.underlying0
 a0 := Tryd.isAgg0
 z0 := Tryd.sizeOf0
 v0 := Tryd.zeroValue0
 t2 := Tryd.underlying2
 a2 := Tryd.isAgg2
 z2 := Tryd.sizeOf2
 v2 := Tryd.zeroValue2
 t3 := Tryd.underlying3
 a3 := Tryd.isAgg3
 z3 := Tryd.sizeOf3
 v3 := Tryd.zeroValue3
 t4 := Tryd.underlying4
 a4 := Tryd.isAgg4
 z4 := Tryd.sizeOf4
 v4 := Tryd.zeroValue4
 t5 := Tryd.underlying5
 a5 := Tryd.isAgg5
 z5 := Tryd.sizeOf5
 v5 := Tryd.zeroValue5
 t9 := Tryd.underlying9
 a9 := Tryd.isAgg9
 z9 := Tryd.sizeOf9
 v9 := Tryd.zeroValue9
 t20 := Tryd.underlying20
 a20 := Tryd.isAgg20
 z20 := Tryd.sizeOf20
 v20 := Tryd.zeroValue20
 t21 := Tryd.underlying21
 a21 := Tryd.isAgg21
 z21 := Tryd.sizeOf21
 v21 := Tryd.zeroValue21
 t37 := Tryd.underlying22
 a37 := Tryd.isAgg22
 z37 := Tryd.sizeOf22
 v37 := Tryd.zeroValue22
 t46 := Tryd.underlying36
 a46 := Tryd.isAgg36
 z46 := Tryd.sizeOf36
 v46 := Tryd.zeroValue36
 t51 := Tryd.underlying113
 a51 := Tryd.isAgg113
 z51 := Tryd.sizeOf113
 v51 := Tryd.zeroValue113
 t53 := Tryd.underlying111
 a53 := Tryd.isAgg111
 z53 := Tryd.sizeOf111
 v53 := Tryd.zeroValue111
 t75 := Tryd.underlying101
 a75 := Tryd.isAgg101
 z75 := Tryd.sizeOf101
 v75 := Tryd.zeroValue101
 t76 := Tryd.underlying102
 a76 := Tryd.isAgg102
 z76 := Tryd.sizeOf102
 v76 := Tryd.zeroValue102
 t85 := Tryd.underlying107
 a85 := Tryd.isAgg107
 z85 := Tryd.sizeOf107
 v85 := Tryd.zeroValue107
 t127 := Tryd.underlying118
 a127 := Tryd.isAgg118
 z127 := Tryd.sizeOf118
 v127 := Tryd.zeroValue118
 t143 := Tryd.underlying146
 a143 := Tryd.isAgg146
 z143 := Tryd.sizeOf146
 v143 := Tryd.zeroValue146
 t145 := Tryd.underlying148
 a145 := Tryd.isAgg148
 z145 := Tryd.sizeOf148
 v145 := Tryd.zeroValue148
 t167 := Tryd.underlying128
 a167 := Tryd.isAgg128
 z167 := Tryd.sizeOf128
 v167 := Tryd.zeroValue128
 t168 := Tryd.underlying131
 a168 := Tryd.isAgg131
 z168 := Tryd.sizeOf131
 v168 := Tryd.zeroValue131
 t171 := Tryd.underlying83
 a171 := Tryd.isAgg83
 z171 := Tryd.sizeOf83
 v171 := Tryd.zeroValue83
 t173 := Tryd.underlying123
 a173 := Tryd.isAgg123
 z173 := Tryd.sizeOf123
 v173 := Tryd.zeroValue123
 t175 := Tryd.underlying129
 a175 := Tryd.isAgg129
 z175 := Tryd.sizeOf129
 v175 := Tryd.zeroValue129
 t210 := Tryd.underlying143
 a210 := Tryd.isAgg143
 z210 := Tryd.sizeOf143
 v210 := Tryd.zeroValue143
 t212 := Tryd.underlying136
 a212 := Tryd.isAgg136
 z212 := Tryd.sizeOf136
 v212 := Tryd.zeroValue136
 t213 := Tryd.underlying137
 a213 := Tryd.isAgg137
 z213 := Tryd.sizeOf137
 t232 := Tryd.underlying149
 a232 := Tryd.isAgg149
 z232 := Tryd.sizeOf149
 v232 := Tryd.zeroValue149
 t233 := Tryd.underlying150
 a233 := Tryd.isAgg150
 z233 := Tryd.sizeOf150
 v233 := Tryd.zeroValue150
 g15 := by kernel_rfl
 g16 := by kernel_rfl
 g17 := by kernel_rfl
 g18 := by kernel_rfl
 g19 := by kernel_rfl
 t80 := Tryd.underlying62
 a80 := Tryd.isAgg62
 z80 := Tryd.sizeOf62
 v80 := Tryd.zeroValue62
 i0 := by kernel_rfl
 i2 := by kernel_rfl
 i3 := by kernel_rfl
 i4 := by kernel_rfl
 i5 := by kernel_rfl
 i9 := by kernel_rfl
 i20 := by kernel_rfl
 i21 := by kernel_rfl
 i37 := by kernel_rfl
 i46 := by kernel_rfl
 i51 := by kernel_rfl
 i53 := by kernel_rfl
 i75 := by kernel_rfl
 i76 := by kernel_rfl
 i80 := by kernel_rfl
 i85 := by kernel_rfl
 i127 := by kernel_rfl
 i143 := by kernel_rfl
 i145 := by kernel_rfl
 i167 := by kernel_rfl
 i168 := by kernel_rfl
 i171 := by kernel_rfl
 i173 := by kernel_rfl
 i175 := by kernel_rfl
 i210 := by kernel_rfl
 i212 := by kernel_rfl
 i232 := by kernel_rfl
 i233 := by kernel_rfl
 m15 := by kernel_rfl
 m16 := by kernel_rfl
 m17 := by kernel_rfl
 m18 := by kernel_rfl
 m19 := by kernel_rfl
 c0 := by kernel_rfl
 c2 := by kernel_rfl
 c3 := by kernel_rfl
 c4 := by kernel_rfl
 c5 := by kernel_rfl
 c9 := by kernel_rfl
 c20 := by kernel_rfl
 c21 := by kernel_rfl
 c37 := by kernel_rfl
 c46 := by kernel_rfl
 c51 := by kernel_rfl
 c53 := by kernel_rfl
 c75 := by kernel_rfl
 c76 := by kernel_rfl
 c80 := by kernel_rfl
 c85 := by kernel_rfl
 c127 := by kernel_rfl
 c143 := by kernel_rfl
 c145 := by kernel_rfl
 c167 := by kernel_rfl
 c168 := by kernel_rfl
 c171 := by kernel_rfl
 c173 := by kernel_rfl
 c175 := by kernel_rfl
 c210 := by kernel_rfl
 c212 := by kernel_rfl
 c213 := by kernel_rfl
 c232 := by kernel_rfl
 c233 := by kernel_rfl }
open Go.RowKit in
theorem Tryd.strconv_Atoi_ok (s : ByteArray) (hmax : s.size ≤ 9223372036854775806) (v : Int) (h : Lib.atoiAll s.data.toList = .ok v) (w : World) :
  Calls Tryd.prog 80 #[.string s] w fun e w' => e = .returned (.tuple #[.int .i64 v, .nilIface]) ∧ (w' = w ∨ ∃ t, w' = Lib.bytesWorld w 5 t) := Any.strconv_Atoi_ok Tryd.laysC172 s hmax v h w
open Go.RowKit in
theorem Tryd.strconv_Atoi_syntax_var (s : ByteArray) (hlim : s.size ≤ 281474976710656) (h : Lib.atoiAll s.data.toList = Lib.atoiAll []) (tp : TypeId) (p : Value) (w : World) (hvar : w.var? Tryd.prog "strconv.ErrSyntax" = some #[.iface tp p]) :
  Calls Tryd.prog 80 #[.string s] w fun e w' => ∃ N, e = .returned (.tuple #[.int .i64 0, .iface 131 (.pointer (some ⟨N, 0, none⟩))]) ∧ w.heap.size ≤ N ∧ w'.heap[N]? = some (.cells #[.string ⟨#[65, 116, 111, 105]⟩, .string s, .iface tp p] 143 (0, 0)) ∧ Below w.heap.size w w' := Any.strconv_Atoi_syntax_var Tryd.laysC172 s hlim (h.trans (by kernel_rfl)) tp p w hvar
open Go.RowKit in
theorem Tryd.strconv_Atoi_range_var (s : ByteArray) (hlim : s.size ≤ 281474976710656) (h : Lib.atoiAll s.data.toList = .range) (tp : TypeId) (p : Value) (w : World) (hvar : w.var? Tryd.prog "strconv.ErrRange" = some #[.iface tp p]) :
  Calls Tryd.prog 80 #[.string s] w fun e w' => ∃ N, e = .returned (.tuple #[.int .i64 (Lib.atoiSat s.data.toList), .iface 131 (.pointer (some ⟨N, 0, none⟩))]) ∧ w.heap.size ≤ N ∧ w'.heap[N]? = some (.cells #[.string ⟨#[65, 116, 111, 105]⟩, .string s, .iface tp p] 143 (0, 0)) ∧ Below w.heap.size w w' := Any.strconv_Atoi_range_var Tryd.laysC172 s hlim h tp p w hvar
def Tryd.laysC174_ren : Go.Shelf.Ren := ⟨fun | 174 => 70 | 247 => 78 | 245 => 79 | 287 => 87 | 279 => 88 | 280 => 89 | 281 => 90 | 282 => 91 | 321 => 98 | 322 => 99 | 316 => 100 | 171 => 102 | 205 => 101 | 243 => 105 | 246 => 106 | 283 => 81 | 284 => 82 | 285 => 83 | 286 => 84 | 129 => 94 | 317 => 93 | 318 => 95 | 319 => 96 | 320 => 97 | 337 => 103 | 338 => 104 | n => n, fun | 9 => 9 | 3 => 3 | 2 => 2 | 75 => 101 | 85 => 107 | 4 => 4 | 167 => 128 | 5 => 5 | 53 => 111 | 175 => 129 | 46 => 36 | 168 => 131 | 37 => 22 | 0 => 0 | 210 => 143 | 21 => 21 | 127 => 118 | 145 => 148 | 143 => 146 | 171 => 83 | 173 => 123 | 212 => 136 | 51 => 113 | 20 => 20 | 213 => 137 | 232 => 149 | 233 => 150 | 80 => 62 | n => n, fun | 15 => 2 | 16 => 3 | 17 => 0 | 18 => 4 | 19 => 5 | n => n⟩
theorem Tryd.laysC174 : Go.Proofs.LaysC.n174 Tryd.prog Tryd.laysC174_ren := {
 mixed := by kernel_rfl
 f129 := Tryd.func94.trans (congrArg some (by kernel_rfl))
 f171 := Tryd.func102.trans (congrArg some (by kernel_rfl))
 f174 := Tryd.func70.trans (congrArg some (by kernel_rfl))
 f205 := Tryd.func101.trans (congrArg some (by kernel_rfl))
 f243 := Tryd.func105.trans (congrArg some (by kernel_rfl))
 f245 := Tryd.func79.trans (congrArg some (by kernel_rfl))
 f246 := Tryd.func106.trans (congrArg some (by kernel_rfl))
 f247 := Tryd.func78.trans (congrArg some (by kernel_rfl))
 f279 := Tryd.func88.trans (congrArg some (by kernel_rfl))
 f280 := Tryd.func89.trans (congrArg some (by kernel_rfl))
 f281 := Tryd.func90.trans (congrArg some (by kernel_rfl))
 f282 := Tryd.func91.trans (congrArg some (by kernel_rfl))
 f283 := Tryd.func81.trans (congrArg some (by kernel_rfl))
 f284 := Tryd.func82.trans (congrArg some (by kernel_rfl))
 f285 := Tryd.func83.trans (congrArg some (by kernel_rfl))
 f286 := Tryd.func84.trans (congrArg some (by kernel_rfl))
 f287 := Tryd.func87.trans (congrArg some (by kernel_rfl))
 f316 := Tryd.func100.trans (congrArg some (by kernel_rfl))
 f317 := Tryd.func93.trans (congrArg some (by kernel_rfl))
 f318 := Tryd.func95.trans (congrArg some (by kernel_rfl))
 f319 := Tryd.func96.trans (congrArg some (by kernel_rfl))
 f320 := Tryd.func97.trans (congrArg some (by kernel_rfl))
 f321 := Tryd.func98.trans (congrArg some (by kernel_rfl))
 f322 := Tryd.func99.trans (congrArg some (by kernel_rfl))
 f337 := Tryd.func103.trans (congrArg some (by kernel_rfl))
 f338 := Tryd.func104.trans (congrArg some (by kernel_rfl))
 t0 := Tryd.underlying0
 a0 := Tryd.isAgg0
 z0 := Tryd.sizeOf0
 v0 := Tryd.zeroValue0
 t2 := Tryd.underlying2
 a2 := Tryd.isAgg2
 z2 := Tryd.sizeOf2
 v2 := Tryd.zeroValue2
 t3 := Tryd.underlying3
 a3 := Tryd.isAgg3
 z3 := Tryd.sizeOf3
 v3 := Tryd.zeroValue3
 t4 := Tryd.underlying4
 a4 := Tryd.isAgg4
 z4 := Tryd.sizeOf4
 v4 := Tryd.zeroValue4
 t5 := Tryd.underlying5
 a5 := Tryd.isAgg5
 z5 := Tryd.sizeOf5
 v5 := Tryd.zeroValue5
 t9 := Tryd.underlying9
 a9 := Tryd.isAgg9
 z9 := Tryd.sizeOf9
 v9 := Tryd.zeroValue9
 t20 := Tryd.underlying20
 a20 := Tryd.isAgg20
 z20 := Tryd.sizeOf20
 v20 := Tryd.zeroValue20
 t21 := Tryd.underlying21
 a21 := Tryd.isAgg21
 z21 := Tryd.sizeOf21
 v21 := Tryd.zeroValue21
 t37 := Tryd.underlying22
 a37 := Tryd.isAgg22
 z37 := Tryd.sizeOf22
 v37 := Tryd.zeroValue22
 t46 := Tryd.underlying36
 a46 := Tryd.isAgg36
 z46 := Tryd.sizeOf36
 v46 := Tryd.zeroValue36
 t51 := Tryd.underlying113
 a51 := Tryd.isAgg113
 z51 := Tryd.sizeOf113
 v51 := Tryd.zeroValue113
 t53 := Tryd.underlying111
 a53 := Tryd.isAgg111
 z53 := Tryd.sizeOf111
 v53 := Tryd.zeroValue111
 t75 := Tryd.underlying101
 a75 := Tryd.isAgg101
 z75 := Tryd.sizeOf101
 v75 := Tryd.zeroValue101
 t85 := Tryd.underlying107
 a85 := Tryd.isAgg107
 z85 := Tryd.sizeOf107
 v85 := Tryd.zeroValue107
 t127 := Tryd.underlying118
 a127 := Tryd.isAgg118
 z127 := Tryd.sizeOf118
 v127 := Tryd.zeroValue118
 t143 := Tryd.underlying146
 a143 := Tryd.isAgg146
 z143 := Tryd.sizeOf146
 v143 := Tryd.zeroValue146
 t145 := Tryd.underlying148
 a145 := Tryd.isAgg148
 z145 := Tryd.sizeOf148
 v145 := Tryd.zeroValue148
 t167 := Tryd.underlying128
 a167 := Tryd.isAgg128
 z167 := Tryd.sizeOf128
 v167 := Tryd.zeroValue128
 t168 := Tryd.underlying131
 a168 := Tryd.isAgg131
 z168 := Tryd.sizeOf131
 v168 := Tryd.zeroValue131
 t171 := Tryd.underlying83
 a171 := Tryd.isAgg83
 z171 := Tryd.sizeOf83
 v171 := Tryd.zeroValue83
 t173 := Tryd.underlying123
 a173 := Tryd.isAgg123
 z173 := Tryd.sizeOf123
 v173 := Tryd.zeroValue123
 t175 := Tryd.underlying129
 a175 := Tryd.isAgg129
 z175 := Tryd.sizeOf129
 v175 := Tryd.zeroValue129
 t210 := Tryd.underlying143
 a210 := Tryd.isAgg143
 z210 := Tryd.sizeOf143
 v210 := Tryd.zeroValue143
 t212 := Tryd.underlying136
 a212 := Tryd.isAgg136
 z212 := Tryd.sizeOf136
 v212 := Tryd.zeroValue136
 t213 := Tryd.underlying137
 a213 := Tryd.isAgg137
 z213 := Tryd.sizeOf137
 t232 := Tryd.underlying149
 a232 := Tryd.isAgg149
 z232 := Tryd.sizeOf149
 v232 := Tryd.zeroValue149
 t233 := Tryd.underlying150
 a233 := Tryd.isAgg150
 z233 := Tryd.sizeOf150
 v233 := Tryd.zeroValue150
 g15 := by kernel_rfl
 g16 := by kernel_rfl
 g17 := by kernel_rfl
 g18 := by kernel_rfl
 g19 := by kernel_rfl
 t80 := Tryd.underlying62
 a80 := Tryd.isAgg62
 z80 := Tryd.sizeOf62
 v80 := Tryd.zeroValue62
 i0 := by kernel_rfl
 i2 := by kernel_rfl
 i3 := by kernel_rfl
 i4 := by kernel_rfl
 i5 := by kernel_rfl
 i9 := by kernel_rfl
 i20 := by kernel_rfl
 i21 := by kernel_rfl
 i37 := by kernel_rfl
 i46 := by kernel_rfl
 i51 := by kernel_rfl
 i53 := by kernel_rfl
 i75 := by kernel_rfl
 i80 := by kernel_rfl
 i85 := by kernel_rfl
 i127 := by kernel_rfl
 i143 := by kernel_rfl
 i145 := by kernel_rfl
 i167 := by kernel_rfl
 i168 := by kernel_rfl
 i171 := by kernel_rfl
 i173 := by kernel_rfl
 i175 := by kernel_rfl
 i210 := by kernel_rfl
 i212 := by kernel_rfl
 i232 := by kernel_rfl
 i233 := by kernel_rfl
 m15 := by kernel_rfl
 m16 := by kernel_rfl
 m17 := by kernel_rfl
 m18 := by kernel_rfl
 m19 := by kernel_rfl
 c0 := by kernel_rfl
 c2 := by kernel_rfl
 c3 := by kernel_rfl
 c4 := by kernel_rfl
 c5 := by kernel_rfl
 c9 := by kernel_rfl
 c20 := by kernel_rfl
 c21 := by kernel_rfl
 c37 := by kernel_rfl
 c46 := by kernel_rfl
 c51 := by kernel_rfl
 c53 := by kernel_rfl
 c75 := by kernel_rfl
 c80 := by kernel_rfl
 c85 := by kernel_rfl
 c127 := by kernel_rfl
 c143 := by kernel_rfl
 c145 := by kernel_rfl
 c167 := by kernel_rfl
 c168 := by kernel_rfl
 c171 := by kernel_rfl
 c173 := by kernel_rfl
 c175 := by kernel_rfl
 c210 := by kernel_rfl
 c212 := by kernel_rfl
 c213 := by kernel_rfl
 c232 := by kernel_rfl
 c233 := by kernel_rfl }
open Go.RowKit in
theorem Tryd.strconv_ParseInt_10_at64_ok (s : ByteArray) (hmax : s.size ≤ 9223372036854775806) (v : Int) (h : Lib.parseIntB 64 s.data.toList = .ok v) (w : World) :
  Calls Tryd.prog 70 #[.string s, .int .i64 10, .int .i64 64] w fun e w' => e = .returned (.tuple #[.int .i64 v, .nilIface]) ∧ (w' = w ∨ ∃ t, w' = Lib.bytesWorld w 5 t) := Any.strconv_ParseInt_10_at64_ok Tryd.laysC174 s hmax v h w
open Go.RowKit in
theorem Tryd.strconv_ParseInt_10_at64_syntax_var (s : ByteArray) (hlim : s.size ≤ 281474976710656) (h : Lib.parseIntB 64 s.data.toList = Lib.parseIntB 64 []) (tp : TypeId) (p : Value) (w : World) (hvar : w.var? Tryd.prog "strconv.ErrSyntax" = some #[.iface tp p]) :
  Calls Tryd.prog 70 #[.string s, .int .i64 10, .int .i64 64] w fun e w' => ∃ N, e = .returned (.tuple #[.int .i64 (0), .iface 131 (.pointer (some ⟨N, 0, none⟩))]) ∧ w.heap.size ≤ N ∧ w'.heap[N]? = some (.cells #[.string ⟨#[80, 97, 114, 115, 101, 73, 110, 116]⟩, .string s, .iface tp p] 143 (0, 0)) ∧ Below w.heap.size w w' := Any.strconv_ParseInt_10_at64_syntax_var Tryd.laysC174 s hlim (h.trans (by kernel_rfl)) tp p w hvar
open Go.RowKit in
theorem Tryd.strconv_ParseInt_10_at64_range_var (s : ByteArray) (hlim : s.size ≤ 281474976710656) (h : Lib.parseIntB 64 s.data.toList = .range) (tp : TypeId) (p : Value) (w : World) (hvar : w.var? Tryd.prog "strconv.ErrRange" = some #[.iface tp p]) :
  Calls Tryd.prog 70 #[.string s, .int .i64 10, .int .i64 64] w fun e w' => ∃ N, e = .returned (.tuple #[.int .i64 (Lib.intSat 64 s.data.toList), .iface 131 (.pointer (some ⟨N, 0, none⟩))]) ∧ w.heap.size ≤ N ∧ w'.heap[N]? = some (.cells #[.string ⟨#[80, 97, 114, 115, 101, 73, 110, 116]⟩, .string s, .iface tp p] 143 (0, 0)) ∧ Below w.heap.size w w' := Any.strconv_ParseInt_10_at64_range_var Tryd.laysC174 s hlim h tp p w hvar
def Tryd.lays99_ren : Go.Shelf.Ren := ⟨fun | 99 => 63 | 206 => 75 | n => n, fun | 9 => 9 | 4 => 4 | 3 => 3 | n => n, fun | n => n⟩
theorem Tryd.lays99 : Go.Proofs.Lays.n99 Tryd.prog Tryd.lays99_ren := {
 mixed := by kernel_rfl
 f99 := Tryd.func63.trans (congrArg some (by kernel_rfl))
 f206 := Tryd.func75.trans (congrArg some (by kernel_rfl))
 t3 := Tryd.underlying3
 a3 := Tryd.isAgg3
 z3 := Tryd.sizeOf3
 v3 := Tryd.zeroValue3
 t4 := Tryd.underlying4
 a4 := Tryd.isAgg4
 z4 := Tryd.sizeOf4
 v4 := Tryd.zeroValue4
 t9 := Tryd.underlying9
 a9 := Tryd.isAgg9
 z9 := Tryd.sizeOf9
 v9 := Tryd.zeroValue9 }
open Go.RowKit Go.Lib in
theorem Tryd.strings_HasPrefix (s p : ByteArray) (w : World) :
  Calls Tryd.prog 63 #[.string s, .string p] w fun e w' => e = .returned (.bool (Lib.hasPrefix s.data.toList p.data.toList)) ∧ w' = w := Any.strings_HasPrefix Tryd.lays99 s p w
def Tryd.lays105_ren : Go.Shelf.Ren := ⟨fun | 105 => 55 | 212 => 62 | 99 => 63 | 165 => 64 | 166 => 65 | 170 => 66 | 169 => 67 | 263 => 73 | 264 => 74 | 206 => 75 | 240 => 76 | 241 => 77 | 276 => 85 | 277 => 86 | n => n, fun | 9 => 9 | 3 => 3 | 4 => 4 | 20 => 20 | 0 => 0 | 46 => 36 | 109 => 94 | 5 => 5 | 72 => 99 | 76 => 102 | 51 => 113 | 146 => 114 | 53 => 111 | 148 => 116 | 70 => 97 | 37 => 22 | 75 => 101 | 127 => 118 | 164 => 125 | 80 => 62 | n => n, fun | n => n⟩
theorem Tryd.lays105 : Go.Proofs.Lays.n105 Tryd.prog Tryd.lays105_ren := {
 mixed := by kernel_rfl
 f99 := Tryd.func63.trans (congrArg some (by kernel_rfl))
 f105 := Tryd.func55.trans (congrArg some (by kernel_rfl))
 f165 := Tryd.func64.trans (congrArg some (by kernel_rfl))
 f166 := Tryd.func65.trans (congrArg some (by kernel_rfl))
 f169 := Tryd.func67.trans (congrArg some (by kernel_rfl))
 f170 := Tryd.func66.trans (congrArg some (by kernel_rfl))
 f206 := Tryd.func75.trans (congrArg some (by kernel_rfl))
 f212 := Tryd.func62.trans (congrArg some (by kernel_rfl))
 f240 := Tryd.func76.trans (congrArg some (by kernel_rfl))
 f241 := Tryd.func77.trans (congrArg some (by kernel_rfl))
 f263 := Tryd.func73.trans (congrArg some (by kernel_rfl))
 f264 := Tryd.func74.trans (congrArg some (by kernel_rfl))
 f276 := Tryd.func85.trans (congrArg some (by kernel_rfl))
 f277 := Tryd.func86.trans (congrArg some (by kernel_rfl))
 t0 := Tryd.underlying0
 a0 := Tryd.isAgg0
 z0 := Tryd.sizeOf0
 v0 := Tryd.zeroValue0
 t3 := Tryd.underlying3
 a3 := Tryd.isAgg3
 z3 := Tryd.sizeOf3
 v3 := Tryd.zeroValue3
 t4 := Tryd.underlying4
 a4 := Tryd.isAgg4
 z4 := Tryd.sizeOf4
 v4 := Tryd.zeroValue4
 t5 := Tryd.underlying5
 a5 := Tryd.isAgg5
 z5 := Tryd.sizeOf5
 v5 := Tryd.zeroValue5
 t9 := Tryd.underlying9
 a9 := Tryd.isAgg9
 z9 := Tryd.sizeOf9
 v9 := Tryd.zeroValue9
 t20 := Tryd.underlying20
 a20 := Tryd.isAgg20
 z20 := Tryd.sizeOf20
 v20 := Tryd.zeroValue20
 t37 := Tryd.underlying22
 a37 := Tryd.isAgg22
 z37 := Tryd.sizeOf22
 v37 := Tryd.zeroValue22
 t46 := Tryd.underlying36
 a46 := Tryd.isAgg36
 z46 := Tryd.sizeOf36
 v46 := Tryd.zeroValue36
 t51 := Tryd.underlying113
 a51 := Tryd.isAgg113
 z51 := Tryd.sizeOf113
 v51 := Tryd.zeroValue113
 t53 := Tryd.underlying111
 a53 := Tryd.isAgg111
 z53 := Tryd.sizeOf111
 v53 := Tryd.zeroValue111
 t70 := Tryd.underlying97
 a70 := Tryd.isAgg97
 z70 := Tryd.sizeOf97
 v70 := Tryd.zeroValue97
 t72 := Tryd.underlying99
 a72 := Tryd.isAgg99
 z72 := Tryd.sizeOf99
 v72 := Tryd.zeroValue99
 t75 := Tryd.underlying101
 a75 := Tryd.isAgg101
 z75 := Tryd.sizeOf101
 v75 := Tryd.zeroValue101
 t76 := Tryd.underlying102
 a76 := Tryd.isAgg102
 z76 := Tryd.sizeOf102
 v76 := Tryd.zeroValue102
 t109 := Tryd.underlying94
 a109 := Tryd.isAgg94
 z109 := Tryd.sizeOf94
 v109 := Tryd.zeroValue94
 t127 := Tryd.underlying118
 a127 := Tryd.isAgg118
 z127 := Tryd.sizeOf118
 v127 := Tryd.zeroValue118
 t146 := Tryd.underlying114
 a146 := Tryd.isAgg114
 z146 := Tryd.sizeOf114
 v146 := Tryd.zeroValue114
 t148 := Tryd.underlying116
 a148 := Tryd.isAgg116
 z148 := Tryd.sizeOf116
 v148 := Tryd.zeroValue116
 t164 := Tryd.underlying125
 a164 := Tryd.isAgg125
 z164 := Tryd.sizeOf125
 v164 := Tryd.zeroValue125 }
theorem Tryd.Builder_Extra_105 : Builder.Extra Tryd.prog Tryd.lays105_ren := {
 sizeBuilder := by kernel_rfl
 liesBuilder := by kernel_rfl
 t5 := Tryd.underlying5
 a5 := Tryd.isAgg5
 z5 := Tryd.sizeOf5
 v5 := Tryd.zeroValue5
 infoByte := by kernel_rfl
 cellsByte := by kernel_rfl
 sizeByte := by kernel_rfl
 neB5 := by decide }
open Go.RowKit Go.Lib in
theorem Tryd.strings_Repeat (s : ByteArray) (c : Nat) (w : World) (hc : c ≤ 9223372036854775807) (hlen : s.size * c ≤ 140737488355328) :
  Calls Tryd.prog 55 #[.string s, .int .i64 c] w fun e w' => e = .returned (.string ⟨(Lib.repeatL s.data.toList c).toArray⟩) ∧ Below w.heap.size w w' := Any.strings_Repeat Tryd.lays105 Tryd.Builder_Extra_105 s c w hc hlen
end Go.Proofs

end
section
namespace Go.Proofs.YtfpopmojlmpopaaDoor.H
open Go.RowKit Go.Proofs.YtfpopmojlmpopaaDoorW.PrintWords Go.Proofs.YtfpopmojlmpopaaDoorW.PrintLast Go.Proofs.YtfpopmojlmpopaaDoorW.PrintMore
set_option linter.unusedVariables false
theorem info5 : (Tryd.prog.info? 5).map (fun i => (i.zero, i.size, i.bytes)) = some (some (.int .u8 0), 1, 1) := by kernel_rfl
section
variable {P : Program}
theorem run_append_arr_string (w : World) (t u ty e T : TypeId) (i : TypeInfo) (ht : P.underlying t = some (.slice e)) (hu : P.underlying u = some .string) (hi : P.info? e = some i) (hs1 : i.size = 1)
  (D cap : Nat) (cur : Array Value) (hg : w.heap[D]? = some (.cells cur T (0, 0))) (s : ByteArray) (hroom : s.size ≤ cap) (hfit : s.size ≤ cur.size) :
  (Builtin.append_ #[t, u] ty #[.slice (some ⟨D, 0, none⟩) 0 cap, .string s]).run P w = .ok (.slice (some ⟨D, 0, none⟩) s.size cap) (w.setRow D (Lib.strCells s ++ cur.toList.drop s.size).toArray) := by
 have h1 := Lib.run_firstCells_string (P := P) w 1 s
 have h2 := run_storeCells_at P D 0 T (Lib.strCells s) 0 cur w hg (by simpa [Lib.strCells_length] using hfit) (Lib.strCells_oneCell s)
 simp only [Nat.add_zero, Lib.strCells_length] at h2
 simp [Builtin.append_, run_underlying ht, run_underlying hu, sizeOf, typeInfo, hi, hs1, Builtin.lenOf, hroom, h1, Addr.add_lit, h2]
theorem wpList_append_arr_string {ops : Array Oper} {rest : List Oper} {o : Oper} {a : Act} {w : World} {Q : Exit → Act → World → Prop} (hgd : o.guard = none) (sl x : Operand) (t u : TypeId)
  (ho : o.op = .call { callee := .builtin .append, args := #[sl, x], argTypes := #[t, u] })
  (e T : TypeId) (i : TypeInfo) (ht : P.underlying t = some (.slice e)) (hu : P.underlying u = some .string) (hi : P.info? e = some i) (hs1 : i.size = 1)
  (D cap : Nat) (cur : Array Value) (hs : a.eval sl = .slice (some ⟨D, 0, none⟩) 0 cap) (hg : w.heap[D]? = some (.cells cur T (0, 0))) (s : ByteArray) (hx : a.eval x = .string s) (hroom : s.size ≤ cap) (hfit : s.size ≤ cur.size)
  (h : wpList P ops Q rest (a.put o.dst (.slice (some ⟨D, 0, none⟩) s.size cap)) (w.setRow D (Lib.strCells s ++ cur.toList.drop s.size).toArray)) : wpList P ops Q (o :: rest) a w := by
 refine wpList_plain hgd fun K hK => ?_
 have hr := run_append_arr_string (P := P) w t u o.type e T i ht hu hi hs1 D cap cur hg s hroom hfit
 unfold Oper.wp execOp
 simp only [ho, resolve, invoke, builtin, Sem.run_bind, Sem.run_pure, Result.andThen_ok, List.map_toArray, List.map_cons, List.map_nil, hs, hx, hr]
 exact hK _ _ h
end
def AtHead (D : Nat) (l : List UInt8) (w w' : World) : Prop := (∀ j u, (Lib.byteCells l)[j]? = some u → w'.cell? ⟨D, j, none⟩ = some u) ∧ w.grownBy w' (some D)
theorem setRow_grownBy (w : World) (D : Nat) (cs : Array Value) : w.grownBy (w.setRow D cs) (some D) :=
 ⟨rfl, rfl, rfl, by simp, fun k hk hne => setRow_other w D k cs (fun e => hne (by rw [e]))⟩
theorem decDigits_len20 (u : Nat) (hu : u < 18446744073709551616) : (Lib.decDigits u).length ≤ 20 := by
 rw [Lib.decDigits_length]
 by_cases h10 : u < 10
 ·rw [Lib.nDigits_small h10]; omega
 ·have := Lib.numDigits_eq u (by omega) hu; split at this <;> omega
theorem setCells_grownBy (D : Nat) (vs : List Value) (o : Nat) (w : World) : w.grownBy (w.setCells D o vs) (some D) := by
 induction vs generalizing o w with
 | nil => exact ⟨rfl, rfl, rfl, Nat.le_refl _, fun _ _ _ => rfl⟩
 | cons v vs ih =>
  have h := ih (o + 1) (w.setCell ⟨D, o, none⟩ v)
  refine ⟨h.os, h.tape, h.output, Nat.le_trans (by simp [World.setCell]) h.size, fun k hk hne => ?_⟩
  exact (h.block k (by simpa [World.setCell] using hk) hne).trans (Below.heap_setCell w ⟨D, o, none⟩ v k (fun e => hne (by rw [e])))
theorem _root_.Go.World.grownBy.trans_ {a b c : World} {row : Option Nat} (h : a.grownBy b row) (k : b.grownBy c row) : a.grownBy c row :=
 ⟨k.os.trans h.os, k.tape.trans h.tape, k.output.trans h.output, Nat.le_trans h.size k.size, fun i hi hne => (k.block i (Nat.lt_of_lt_of_le hi h.size) hne).trans (h.block i hi hne)⟩
theorem head_cells (l : List UInt8) (rest : List Value) (j : Nat) (v : Value) (h : (Lib.byteCells l)[j]? = some v) : (Lib.strCells ⟨l.toArray⟩ ++ rest).toArray[j]? = some v := by
 have e : Lib.strCells ⟨l.toArray⟩ = Lib.byteCells l := rfl
 have hj := (List.getElem?_eq_some_iff.1 h).1
 rw [e, List.getElem?_toArray, List.getElem?_append_left hj]
 exact h
set_option maxHeartbeats 1000000 in
set_option maxRecDepth 100000 in
theorem AppendUint_small (D : Nat) (u : Nat) (hu : u < 100) (w : World) (cur : Array Value) (hg : w.heap[D]? = some (.cells cur 83 (0, 0))) (hc : cur.size = 24) :
  Calls Tryd.prog 72 #[.slice (some ⟨D, 0, none⟩) 0 24, .int .u64 u, .int .i64 10] w fun e w' => e = .returned (.slice (some ⟨D, 0, none⟩) (Lib.decDigits u).length 24) ∧ AtHead D (Lib.decDigits u) w w' := by
 obtain ⟨i0, hi, hz0, hz1, hz2⟩ := info_parts info5
 have hl := decDigits_len20 u (by omega)
 have hsz : (⟨(Lib.decDigits u).toArray⟩ : ByteArray).size = (Lib.decDigits u).length := by simp [ByteArray.size]
 have HG := Lib.hid hg
 have HSZ := Lib.hid hsz
 clear hg hsz
 go_enter Tryd.func72, Tryd.ntmps72
 go_wp2_with (first
  | (go_at_call 81; refine (Tryd.internal_strconv_small u hu _).mono ?_; rintro e w' ⟨rfl, rfl⟩)
  | (at_builtin; refine wpList_append_arr_string rfl _ _ 22 9 rfl 5 83 i0 Tryd.underlying22 Tryd.underlying9 hi hz1 D 24 cur rfl HG.out ⟨(Lib.decDigits u).toArray⟩ rfl (by rw [HSZ.out]; omega) (by rw [HSZ.out]; omega) ?_))
 go_ret
 refine ⟨by rw [← HSZ.out]; rfl, ?_, setRow_grownBy _ _ _⟩
 intro j v hj
 rw [cell_of_row _ _ _ _ _ _ (setRow_heap _ D cur _ _ _ HG.out)]
 exact head_cells _ _ _ _ hj
set_option maxHeartbeats 4000000 in
set_option maxRecDepth 100000 in
theorem AppendUint_big (D : Nat) (u : Nat) (hu : 100 ≤ u) (hu64 : u < 18446744073709551616) (w : World) (cur : Array Value) (hg : w.heap[D]? = some (.cells cur 83 (0, 0))) (hc : cur.size = 24)
  (htab : Lib.TabIs Tryd.prog w "internal/strconv.uint64pow10" .u64 Lib.pow10Tab) :
  Calls Tryd.prog 72 #[.slice (some ⟨D, 0, none⟩) 0 24, .int .u64 u, .int .i64 10] w fun e w' => e = .returned (.slice (some ⟨D, 0, none⟩) (Lib.decDigits u).length 24) ∧ AtHead D (Lib.decDigits u) w w' := by
 obtain ⟨i0, hi, hz0, hz1, hz2⟩ := info_parts info5
 have hl := decDigits_len20 u hu64
 have hDl : D < w.heap.size := blk_lt hg
 have hu1 : 1 ≤ u := by omega
 have hnd20 : Lib.nDigits u ≤ 20 := by rw [← Lib.decDigits_length]; exact hl
 have hal : Tryd.prog.arrayLen 83 = 24 := by simp [Program.arrayLen, Tryd.underlying83]
 have hsl : ∀ W, (Instr.sliceAt 83 (.pointer (some ⟨w.heap.size, 0, none⟩)) none (some (.int .i64 (Lib.nDigits u : Int))) none).run Tryd.prog W = .ok (.slice (some ⟨w.heap.size, 0, none⟩) (Lib.nDigits u) 24) W := fun W => by
  rw [run_sliceAt_array_h W 83 ⟨w.heap.size, 0, none⟩ (by simp [Program.arrayLen, Program.elem, Tryd.underlying83]) .i64 (Lib.nDigits u : Int) (by omega) (by rw [hal]; omega)]
  go_simp
 have hH0 := Lib.holds_zero0 w 83 (Lib.nDigits u) (by omega)
 have hfmt := Tryd.internal_strconv_formatBase10 w.heap.size 0 24 u (Array.replicate (Lib.nDigits u) 0) (w.alloc (.cells Lib.zeros24 83)) hH0 (by rw [Array.size_replicate]; exact Lib.lt_pow_nDigits u) hu64 (by rw [Array.size_replicate]; omega)
 rw [Array.size_replicate] at hfmt
 have HH0 := Lib.hid hH0
 have HG := Lib.hid hg
 have iu : (100 : Int) ≤ (u : Int) := by omega
 clear hH0 hal hg
 go_enter Tryd.func72, Tryd.ntmps72
 go_wp2_with (first
  | (go_at_call 82; refine (Tryd.internal_strconv_numDigits u hu1 hu64 _ (Lib.tabIs_alloc htab _)).mono ?_; rintro e w' ⟨rfl, rfl⟩))
 refine hfmt.mono ?_
 rintro e w' ⟨rfl, k, v', dk, rfl, hF⟩
 have hcells : ∀ j u', (Lib.byteCells (Lib.decDigits u))[j]? = some u' → ((Go.Sort.putRow (fun (b : UInt8) => Value.int .u8 (b.toNat : Int)) (w.alloc (.cells Lib.zeros24 83)) w.heap.size 0 dk).drewN k).cell? ((⟨w.heap.size, 0, none⟩ : Addr).add j) = some u' := by
  intro j u' hj
  have hjl : j < (Lib.decDigits u).length := by
   have h5 := (List.getElem?_eq_some_iff.1 hj).1
   rwa [Lib.byteCells_length] at h5
  have e5 : (Lib.byteCells (Lib.decDigits u))[j]? = some (Value.int .u8 ((Lib.decDigits u)[j].toNat : Int)) := by simp [Lib.byteCells, hjl]
  rw [e5] at hj
  cases hj
  rw [Lib.row_is_numeral hF j hjl, Lib.add_plain, World.cell?_drewN]
  exact Go.Sort.cell?_putRow (fun (b : UInt8) => Value.int .u8 (b.toNat : Int)) _ w.heap.size 0 _ dk HH0.out (by rw [hF.size, Array.size_replicate]) j (by rw [hF.size]; rw [Lib.decDigits_length] at hjl; exact hjl)
 obtain ⟨os, eo⟩ := Lib.fin_at w (.cells Lib.zeros24 83) dk k 0
 have hbel : Below w.heap.size w ((Go.Sort.putRow (fun (b : UInt8) => Value.int .u8 (b.toNat : Int)) (w.alloc (.cells Lib.zeros24 83)) w.heap.size 0 dk).drewN k) := by rw [eo]; exact Lib.below_grow _ w (Nat.le_refl _) k os
 generalize (Go.Sort.putRow (fun (b : UInt8) => Value.int .u8 (b.toNat : Int)) (w.alloc (.cells Lib.zeros24 83)) w.heap.size 0 dk).drewN k = W2 at hcells hbel ⊢
 clear eo HH0 hfmt
 have hg2 : W2.heap[D]? = some (.cells cur 83 (0, 0)) := (hbel.block D hDl).trans HG.out
 have HG2 := Lib.hid hg2
 clear hg2
 go_wp2_with (at_builtin; refine wpList_append_arg _ rfl _ _ 22 rfl 5 i0 (.int .u8 0) 1 1 Tryd.underlying22 hi hz0 hz1 hz2 rfl (by decide) D 0 0 24 [] rfl rfl (by intro j u h; simp at h) ⟨w.heap.size, 0, none⟩ (Lib.nDigits u) 24 (Lib.byteCells (Lib.decDigits u)) rfl ?c0 hcells ?c2 ?c3 ?c4 ?c5 ?_ ?c6)
 case c0 => rw [Lib.byteCells_length, Lib.decDigits_length, Nat.mul_one]
 case c2 => intro u' hu'; simp only [Lib.byteCells, List.mem_map] at hu'; obtain ⟨b, _, rfl⟩ := hu'; rfl
 case c3 =>
  intro _ j hj
  rw [Lib.byteCells_length] at hj
  rw [cell_of_row _ _ _ _ _ _ HG2.out, frozen_of_row _ _ _ _ _ HG2.out]
  exact ⟨by simp; omega, rfl⟩
 case c4 => unfold maxLen; omega
 case c5 => omega
 case c6 => intro h; omega
 intro _
 go_wp2
 go_ret
 refine ⟨by rw [Lib.decDigits_length]; rfl, ?_, (grown_of_below hbel (some D)).trans_ (setCells_grownBy D _ _ _)⟩
 intro j x hj
 have hj2 := (List.getElem?_eq_some_iff.1 hj).1
 have h := World.cell?_setCells_in D (Lib.byteCells (Lib.decDigits u)) 0 W2 (fun j hj => by rw [Lib.byteCells_length] at hj; rw [cell_of_row _ _ _ _ _ _ HG2.out]; simp; omega) j hj2
 rw [Nat.zero_add] at h
 rw [List.getElem?_eq_getElem hj2] at hj
 rw [← hj]
 exact h
theorem AppendInt_arr (D : Nat) (i : Int) (h0 : 0 ≤ i) (h1 : i ≤ 9223372036854775807) (w : World) (cur : Array Value) (hg : w.heap[D]? = some (.cells cur 83 (0, 0))) (hc : cur.size = 24)
  (htab : 100 ≤ i → Lib.TabIs Tryd.prog w "internal/strconv.uint64pow10" .u64 Lib.pow10Tab) :
  Calls Tryd.prog 53 #[.slice (some ⟨D, 0, none⟩) 0 24, .int .i64 i, .int .i64 10] w fun e w' => e = .returned (.slice (some ⟨D, 0, none⟩) (Lib.itoa i).length 24) ∧ AtHead D (Lib.itoa i) w w' := by
 obtain ⟨u, rfl⟩ : ∃ u : Nat, i = u := ⟨i.toNat, by omega⟩
 have hu64 : u < 18446744073709551616 := by omega
 have hU : Calls Tryd.prog 72 #[.slice (some ⟨D, 0, none⟩) 0 24, .int .u64 u, .int .i64 10] w fun e w' => e = .returned (.slice (some ⟨D, 0, none⟩) (Lib.decDigits u).length 24) ∧ AtHead D (Lib.decDigits u) w w' := by
  by_cases h : u < 100
  ·exact AppendUint_small D u h w cur hg hc
  ·exact AppendUint_big D u (by omega) hu64 w cur hg hc (htab (by omega))
 rw [Lib.itoa_nonneg]
 have HU := Lib.hid hU
 clear hU hg hc htab
 have hn : decide ((u : Int) < 0) = false := by simp
 go_enter Tryd.func53, Tryd.ntmps53
 go_wp2_with (first | (go_at_call 72; refine (HU.out).mono ?_; rintro e w' ⟨rfl, hw⟩) | go_in)
 go_ret
 exact ⟨rfl, hw⟩
end Go.Proofs.YtfpopmojlmpopaaDoor.H

end
section
namespace Go.Proofs.YtfpopmojlmpopaaDoor.H
open Go.RowKit Go.Proofs.YtfpopmojlmpopaaDoorW.PrintWords
def VarIs (w : World) (name : String) : Prop := ∃ tp p, w.var? Tryd.prog name = some #[.iface tp p]
structure Laid (w : World) : Prop where
 tab : Lib.TabIs Tryd.prog w "internal/strconv.uint64pow10" .u64 Lib.pow10Tab
 range : VarIs w "strconv.ErrRange"
 stx : VarIs w "strconv.ErrSyntax"
theorem var_below {w w' : World} (hb : Below w.heap.size w w') (name : String) {cs : Array Value} (h : w.var? Tryd.prog name = some cs) : w'.var? Tryd.prog name = some cs := by
 unfold World.var? at *
 cases hg : Tryd.prog.globalNamed name with
 | none => simp [hg] at h
 | some g =>
  simp only [hg, Option.bind_some] at h ⊢
  have hlt : g < w.heap.size := by
   rcases Nat.lt_or_ge g w.heap.size with h' | h'
   ·exact h'
   ·rw [Array.getElem?_eq_none h'] at h; simp at h
  rw [hb.block g hlt]
  exact h
theorem Laid.below {w w' : World} (h : Laid w) (hb : Below w.heap.size w w') : Laid w' :=
 ⟨Lib.tabBelow_of_tabIs h.tab w' hb, by obtain ⟨tp, p, hv⟩ := h.range; exact ⟨tp, p, var_below hb _ hv⟩, by obtain ⟨tp, p, hv⟩ := h.stx; exact ⟨tp, p, var_below hb _ hv⟩⟩
theorem Laid.tabB {w : World} (h : Laid w) : Lib.TabBelow Tryd.prog w.heap.size w "internal/strconv.uint64pow10" .u64 Lib.pow10Tab := Lib.tabBelow_of_tabIs h.tab
end Go.Proofs.YtfpopmojlmpopaaDoor.H

end
section
namespace Go.Proofs.YtfpopmojlmpopaaDoor.G
open Go.RowKit Go.Proofs.YtfpopmojlmpopaaDoorW.PrintWords Go.Proofs.YtfpopmojlmpopaaDoorW.PrintLast Go.Proofs.YtfpopmojlmpopaaDoorW.PrintMore
attribute [local go_sem] max2_int min2_int max_two min_two max_three min_three max_four min_four
set_option linter.unusedVariables false
set_option linter.unusedSimpArgs false
def errW : Option Int → Value
 | none => .nilIface
 | some c => .iface 0 (.int .i64 c)
theorem errW_none : errW none = .nilIface := rfl
theorem errW_some (c : Int) : errW (some c) = .iface 0 (.int .i64 c) := rfl
theorem info5 : (Tryd.prog.info? 5).map (fun i => (i.zero, i.size, i.bytes)) = some (some (.int .u8 0), 1, 1) := by kernel_rfl
theorem info9 : (Tryd.prog.info? 9).map (fun i => (i.zero, i.size, i.bytes)) = some (some (.string ⟨#[]⟩), 1, 16) := by kernel_rfl
theorem info24 : (Tryd.prog.info? 24).map (fun i => (i.zero, i.size, i.bytes)) = some (some (.int .u16 0), 1, 2) := by kernel_rfl
theorem info52 : (Tryd.prog.info? 52).map (fun i => (i.zero, i.size, i.bytes)) = some (some (.agg #[(.int .i64 0), (.int .i64 0), (.slice none 0 0)]), 3, 40) := by kernel_rfl
theorem info77 : (Tryd.prog.info? 77).map (fun i => (i.zero, i.size, i.bytes)) = some (some (.slice none 0 0), 1, 24) := by kernel_rfl
structure S52 where
 f0 : Int
 f1 : Int
 f2 : (List ByteArray)
def z52 : S52 := ⟨(0 : Int), (0 : Int), ([] : List ByteArray)⟩
def k52 : Kd S52 := Kd.iso (Kd.pair (Kd.int .i64) (Kd.pair (Kd.int .i64) (Kd.slice 9 Kd.string))) (fun x : S52 => (x.f0, x.f1, x.f2))
theorem k52_open {w : World} {x : S52} {cs : List Value} (h : k52.K w x cs) : ∃ A2 c2, cs = [.int .i64 x.f0, .int .i64 x.f1, .slice A2 x.f2.length c2] ∧ x.f2.length ≤ c2 ∧ Kd.string.C w A2 x.f2.length x.f2 := by
 obtain ⟨_, _, rfl, rfl, ⟨_, _, rfl, rfl, ⟨A2, c2, rfl, l2, g2⟩⟩⟩ := h
 exact ⟨A2, c2, rfl, l2, g2⟩
theorem k52_openM {w : World} {base : Nat} {ok : Nat → Prop} {x : S52} {cs : List Value} (h : k52.M w base ok x cs) : ∃ v2, cs = [.int .i64 x.f0, .int .i64 x.f1, v2] ∧ Kd.string.R 9 w base ok v2 x.f2 := by
 obtain ⟨_, _, rfl, rfl, ⟨_, _, rfl, rfl, ⟨v2, rfl, g2⟩⟩⟩ := h
 exact ⟨v2, rfl, g2⟩
theorem k52_mk (w : World) (x : S52) {A2 : Option Addr} {c2 : Nat} (l2 : x.f2.length ≤ c2) (g2 : Kd.string.C w A2 x.f2.length x.f2) : k52.K w x [.int .i64 x.f0, .int .i64 x.f1, .slice A2 x.f2.length c2] := ⟨[.int .i64 x.f0], [.int .i64 x.f1, .slice A2 x.f2.length c2], rfl, rfl, ⟨[.int .i64 x.f1], [.slice A2 x.f2.length c2], rfl, rfl, ⟨A2, c2, rfl, l2, g2⟩⟩⟩
theorem k52_mkM (w : World) (base : Nat) (ok : Nat → Prop) (x : S52) {v2 : Value} (g2 : Kd.string.R 9 w base ok v2 x.f2) : k52.M w base ok x [.int .i64 x.f0, .int .i64 x.f1, v2] := ⟨[.int .i64 x.f0], [.int .i64 x.f1, v2], rfl, rfl, ⟨[.int .i64 x.f1], [v2], rfl, rfl, ⟨v2, rfl, g2⟩⟩⟩
def rd_T52 (xs : List S52) (i : Int) : S52 := xs.getD i.toNat z52
theorem at_T52 {w : World} {A : Option Addr} {n : Nat} {xs : List S52} (h : Kd.C k52 w A n xs) (i : Int) (h0 : 0 ≤ i) (h1 : i < n) : ∃ ad A2 c2, A = some ad ∧ w.cell? (ad.add (i.toNat * 3)) = some (.int .i64 (rd_T52 xs i).f0) ∧ w.cell? ⟨(ad.add (i.toNat * 3)).block, (ad.add (i.toNat * 3)).off + 1, none⟩ = some (.int .i64 (rd_T52 xs i).f1) ∧ w.cell? ⟨(ad.add (i.toNat * 3)).block, (ad.add (i.toNat * 3)).off + 2, none⟩ = some (.slice A2 (rd_T52 xs i).f2.length c2) ∧ (rd_T52 xs i).f2.length ≤ c2 ∧ Kd.string.C w A2 (rd_T52 xs i).f2.length (rd_T52 xs i).f2 := by
 obtain ⟨ad, c, e, _, hK, hc0⟩ := Kd.C_get h z52 i h0 h1
 have hc : ∀ j u, c[j]? = some u → w.cell? (ad.add (i.toNat * 3 + j)) = some u := hc0
 obtain ⟨A2, c2, rfl, l2, g2⟩ := k52_open hK
 exact ⟨ad, A2, c2, e, hc 0 _ rfl, by rw [← add_field _ _ 1 (by omega)]; exact hc 1 _ rfl, by rw [← add_field _ _ 2 (by omega)]; exact hc 2 _ rfl, l2, g2⟩
def rd_L6 (xs : List (List Int)) (i : Int) : (List Int) := xs.getD i.toNat ([] : List Int)
theorem at_L6 {w : World} {A : Option Addr} {n : Nat} {xs : List (List Int)} (h : Kd.C (Kd.slice 24 (Kd.int .u16)) w A n xs) (i : Int) (h0 : 0 ≤ i) (h1 : i < n) : ∃ ad A0 c0, A = some ad ∧ w.cell? (ad.add i.toNat) = some (.slice A0 (rd_L6 xs i).length c0) ∧ (rd_L6 xs i).length ≤ c0 ∧ (Kd.int .u16).C w A0 (rd_L6 xs i).length (rd_L6 xs i) := by
 obtain ⟨ad, c, e, _, hK, hc0⟩ := Kd.C_get h ([] : List Int) i h0 h1
 have hc : ∀ j u, c[j]? = some u → w.cell? (ad.add (i.toNat * 1 + j)) = some u := hc0
 obtain ⟨A0, c0, rfl, l0, g0⟩ := hK
 exact ⟨ad, A0, c0, e, by have hq := hc 0 _ rfl; rwa [Nat.mul_one, Nat.add_zero] at hq, l0, g0⟩
end Go.Proofs.YtfpopmojlmpopaaDoor.G

end
section
namespace Go.Proofs.YtfpopmojlmpopaaDoor.H
open Go.ChangeShapes Go.WideShapes Go.ChangeAt Go.RowKit Go.Proofs.YtfpopmojlmpopaaDoorW.PrintWords Go.Proofs.YtfpopmojlmpopaaDoorW.PrintLast Go.Proofs.YtfpopmojlmpopaaDoorW.PrintMore Go.Proofs.YtfpopmojlmpopaaDoor.G
open Go.ChangeMaps (open_string shut_string)
set_option linter.unusedVariables false
set_option linter.unusedSimpArgs false
def okInt (n : Int) : Prop := -9223372036854775808 ≤ n ∧ n ≤ 9223372036854775807
def okEdit (x : S52) : Prop := okInt x.f0 ∧ okInt x.f1
theorem own : ownKnob Tryd.prog.godebug = none := by kernel_rfl
theorem laidOut : laidOutB Tryd.prog = true := by kernel_rfl
section
variable {H : Type} {enc : TypeId × Value → H} {W : World} {sp : Nat → Bool} {held : Bool}
theorem row_strs {fuel : Nat} {cs : List Value} {x : DataW H × List MemPlace} (h : DataW.trod enc Tryd.prog W 0 sp held fuel 28 cs = some x) :
  ∃ A c l, cs = [.slice A l.length c] ∧ l.length ≤ c ∧ Kd.C Kd.string W A l.length l ∧ ∀ s ∈ l, s.size ≤ 9223372036854775807 := by
 rcases Go.Deep.open_strs Tryd.underlying28 Tryd.underlying9 (by kernel_rfl) h with ⟨rfl, _⟩ | ⟨a, len, cap, m, Sx, rfl, _, hl, hm, hmm, _, hc⟩
 ·exact ⟨none, 0, [], rfl, Nat.le_refl _, Kd.C_nil _ _, fun s hs => by cases hs⟩
 ·have hlm : len ≤ m := by rw [hmm]; split <;> omega
  refine ⟨some a, cap, (List.range len).map Sx, by rw [List.length_map, List.length_range], by rw [List.length_map, List.length_range]; exact hl, ?_, ?_⟩
  ·rw [List.length_map, List.length_range]
   refine Kd.C_of_reads (enc := Value.string) (d := ByteArray.empty) (h1 := fun _ => rfl) ⟨by rw [List.length_map, List.length_range], Nat.le_trans hl hm, fun _ => ⟨a, rfl, fun j hj => ?_⟩⟩
   rw [(hc j (by omega)).1]
   simp [List.getD, hj]
  ·intro s hs
   obtain ⟨i, hi, rfl⟩ := List.mem_map.1 hs
   rw [List.mem_range] at hi
   exact (hc i (by omega)).2
end
theorem iface_cells {H : Type} {enc : TypeId × Value → H} {P : Program} {w : World} {base : Nat} {sp : Nat → Bool} {t : TypeId} {ms : Array (String × TypeId)} {nm : String} {d : DataW H} {p : List MemPlace} {fuel : Nat} {cs : List Value}
  (ht : P.underlying t = some (.interface ms)) (h : DataW.trod enc P w base sp false fuel t cs = some (.iface nm d, p)) : ∃ u v, cs = [.iface u v] := by
 cases fuel with
 | zero => simp [DataW.trod] at h
 | succ n =>
  unfold DataW.trod at h
  rw [ht] at h
  split at h <;> simp_all
def varRow (P : Program) (n : String) : Bool := match (P.globalNamed n).bind (fun g => (P.globals[g]?).map (·.type)) with
 | some t => match P.underlying t with
  | some (.interface _) => true
  | _ => false
 | none => false
theorem var_is {w : World} {n : String} {D : DataW Unit} {l : List (String × DataW Unit)} (h : laidMet Tryd.prog l w) (hm : ∀ ps, DataW.LaidVars Tryd.prog w l ps → ∃ g t cs fuel p, Tryd.prog.globalNamed n = some g ∧ (Tryd.prog.globals[g]?).map (·.type) = some t ∧ w.var? Tryd.prog n = some cs ∧ DataW.trod (fun _ => ()) Tryd.prog w 0 (fun _ => true) false fuel t cs.toList = some (D, p)) (hD : ∃ nm d, D = .iface nm d) (hr : varRow Tryd.prog n = true) : VarIs w n := by
 obtain ⟨ps, hv, _⟩ := h
 obtain ⟨g, t, cs, fuel, p, h1, h2, h3, h4⟩ := hm ps hv
 obtain ⟨nm, d, rfl⟩ := hD
 unfold varRow at hr
 rw [h1] at hr
 simp only [Option.bind_some, h2] at hr
 split at hr
 ·rename_i ms hu
  obtain ⟨u, v, hc⟩ := iface_cells hu h4
  refine ⟨u, v, ?_⟩
  rw [h3, ← Array.toArray_toList (xs := cs), hc]
 ·cases hr
theorem laid_of {w : World} (h : laidMetH Tryd.prog [("math/bits.deBruijn32tab", Rows.laid_math_bits_deBruijn32tab), ("math/bits.deBruijn64tab", Rows.laid_math_bits_deBruijn64tab), ("internal/strconv.uint64pow10", Rows.laid_internal_strconv_uint64pow10), ("strconv.ErrRange", Rows.laid_strconv_ErrRange), ("strconv.ErrSyntax", Rows.laid_strconv_ErrSyntax)] w) : Laid w := by
 rw [MakeChecks.laidMetH_plain _ _ _ (by kernel_rfl)] at h
 have h3 := laidMet.tail (laidMet.tail h)
 have h4 := laidMet.tail h3
 have h5 := laidMet.tail h4
 refine ⟨?_, ?_, ?_⟩
 ·obtain ⟨ps, ⟨g, t, cs, fuel, p, q, hg, ht, hvar, hd, _, _⟩, _⟩ := h3
  have e : (Tryd.prog.globalNamed "internal/strconv.uint64pow10").bind (fun g => (Tryd.prog.globals[g]?).map (·.type)) = some 136 := by kernel_rfl
  rw [hg] at e
  simp only [Option.bind_some] at e
  obtain rfl := Option.some.inj (ht.symm.trans e)
  show w.var? Tryd.prog _ = _
  rw [hvar, ← Lib.cells_of_tab (k := .u64) (zs := Lib.pow10Tab) Tryd.underlying136 Tryd.underlying111 (by kernel_rfl) (by kernel_rfl) hd]
 ·refine var_is h4 (n := "strconv.ErrRange") (D := Rows.laid_strconv_ErrRange) (fun ps hv => ?_) ⟨_, _, rfl⟩ (by kernel_rfl)
  obtain ⟨g, t, cs, fuel, p, q, hg, ht, hvar, hd, _, _⟩ := hv
  exact ⟨g, t, cs, fuel, p, hg, ht, hvar, hd⟩
 ·refine var_is h5 (n := "strconv.ErrSyntax") (D := Rows.laid_strconv_ErrSyntax) (fun ps hv => ?_) ⟨_, _, rfl⟩ (by kernel_rfl)
  obtain ⟨g, t, cs, fuel, p, q, hg, ht, hvar, hd, _, _⟩ := hv
  exact ⟨g, t, cs, fuel, p, hg, ht, hvar, hd⟩
end Go.Proofs.YtfpopmojlmpopaaDoor.H

end
section
namespace Go.Proofs.YtfpopmojlmpopaaDoor.L
set_option linter.unusedVariables false
set_option linter.unusedSimpArgs false
inductive Ed {α : Type} : List α → List α → Nat → Prop
 | nil : Ed [] [] 0
 | keep (x : α) {a b : List α} {n : Nat} : Ed a b n → Ed (x :: a) (x :: b) n
 | del (x : α) {a b : List α} {n : Nat} : Ed a b n → Ed (x :: a) b (n + 1)
 | ins (y : α) {a b : List α} {n : Nat} : Ed a b n → Ed a (y :: b) (n + 1)
theorem Ed.symm {α : Type} {a b : List α} {n : Nat} (h : Ed a b n) : Ed b a n := by
 induction h with
 | nil => exact .nil
 | keep x _ ih => exact .keep x ih
 | del x _ ih => exact .ins x ih
 | ins y _ ih => exact .del y ih
theorem Ed.refl {α : Type} : (a : List α) → Ed a a 0
 | [] => .nil
 | x :: a => .keep x (Ed.refl a)
theorem Ed.dels {α : Type} {a b : List α} {n : Nat} : (l : List α) → Ed a b n → Ed (l ++ a) b (n + l.length)
 | [], h => h
 | x :: l, h => .del x (Ed.dels l h)
theorem Ed.inss {α : Type} {a b : List α} {n : Nat} : (l : List α) → Ed a b n → Ed a (l ++ b) (n + l.length)
 | [], h => h
 | x :: l, h => .ins x (Ed.inss l h)
theorem Ed.comp {α : Type} {a b : List α} {n : Nat} (h : Ed a b n) : ∀ {c : List α} {m : Nat}, Ed b c m → ∃ k, k ≤ n + m ∧ Ed a c k := by
 induction h with
 | nil => intro c m h2; exact ⟨m, by omega, h2⟩
 | @del x a b n h1 ih =>
  intro c m h2
  obtain ⟨k, hk, e⟩ := ih h2
  exact ⟨k + 1, by omega, .del x e⟩
 | @keep x a b n h1 ih =>
  intro c m h2
  generalize hb : x :: b = bb at h2
  induction h2 with
  | nil => cases hb
  | @keep y b2 c2 m2 h3 _ =>
   cases hb
   obtain ⟨k, hk, e⟩ := ih h3
   exact ⟨k, hk, .keep x e⟩
  | @del y b2 c2 m2 h3 _ =>
   cases hb
   obtain ⟨k, hk, e⟩ := ih h3
   exact ⟨k + 1, by omega, .del x e⟩
  | @ins y b2 c2 m2 h3 ih3 =>
   obtain ⟨k, hk, e⟩ := ih3 hb
   exact ⟨k + 1, by omega, .ins y e⟩
 | @ins x a b n h1 ih =>
  intro c m h2
  generalize hb : x :: b = bb at h2
  induction h2 with
  | nil => cases hb
  | @keep y b2 c2 m2 h3 _ =>
   cases hb
   obtain ⟨k, hk, e⟩ := ih h3
   exact ⟨k + 1, by omega, .ins x e⟩
  | @del y b2 c2 m2 h3 _ =>
   cases hb
   obtain ⟨k, hk, e⟩ := ih h3
   exact ⟨k, by omega, e⟩
  | @ins y b2 c2 m2 h3 ih3 =>
   obtain ⟨k, hk, e⟩ := ih3 hb
   exact ⟨k + 1, by omega, .ins y e⟩
def D {α : Type} [DecidableEq α] : List α → List α → Nat
 | [], b => b.length
 | x :: a, [] => a.length + 1
 | x :: a, y :: b => if x = y then D a b else 1 + min (D a (y :: b)) (D (x :: a) b)
 termination_by a b => a.length + b.length
theorem D_nil {α : Type} [DecidableEq α] (b : List α) : D [] b = b.length := by unfold D; rfl
theorem D_cons_nil {α : Type} [DecidableEq α] (x : α) (a : List α) : D (x :: a) [] = a.length + 1 := by unfold D; rfl
theorem D_nil' {α : Type} [DecidableEq α] (a : List α) : D a [] = a.length := by
 cases a with
 | nil => exact D_nil _
 | cons x a => exact D_cons_nil x a
theorem D_eq {α : Type} [DecidableEq α] (x : α) (a b : List α) : D (x :: a) (x :: b) = D a b := by rw [D, if_pos rfl]
theorem D_ne {α : Type} [DecidableEq α] {x y : α} (h : ¬ x = y) (a b : List α) : D (x :: a) (y :: b) = 1 + min (D a (y :: b)) (D (x :: a) b) := by rw [D, if_neg h]
theorem D_Ed {α : Type} [DecidableEq α] : (n : Nat) → (a b : List α) → a.length + b.length ≤ n → Ed a b (D a b)
 | _, [], [], _ => by rw [D_nil]; exact .nil
 | _, [], y :: b, _ => by
  rw [D_nil]
  have h := Ed.inss (y :: b) (Ed.nil (α := α))
  simpa using h
 | _, x :: a, [], _ => by
  rw [D_cons_nil]
  have h := Ed.dels (x :: a) (Ed.nil (α := α))
  simpa using h
 | 0, x :: a, y :: b, h => by simp at h
 | n + 1, x :: a, y :: b, h => by
  simp only [List.length_cons] at h
  by_cases e : x = y
  ·subst e
   rw [D_eq]
   exact .keep x (D_Ed n a b (by omega))
  ·rw [D_ne e]
   by_cases hm : D a (y :: b) ≤ D (x :: a) b
   ·rw [Nat.min_eq_left hm, Nat.add_comm]
    exact .del x (D_Ed n a (y :: b) (by simp only [List.length_cons]; omega))
   ·rw [Nat.min_eq_right (by omega), Nat.add_comm]
    exact .ins y (D_Ed n (x :: a) b (by simp only [List.length_cons]; omega))
theorem D_step {α : Type} [DecidableEq α] : (n : Nat) → (a b : List α) → a.length + b.length ≤ n → (∀ x, D a b ≤ D (x :: a) b + 1) ∧ (∀ y, D a b ≤ D a (y :: b) + 1) ∧ (∀ x, D (x :: a) b ≤ D a b + 1) ∧ (∀ y, D a (y :: b) ≤ D a b + 1)
 | n, [], [], _ => by
  refine ⟨fun x => ?_, fun y => ?_, fun x => ?_, fun y => ?_⟩ <;> simp [D_nil, D_cons_nil]
 | n, [], y :: b, h => by
  refine ⟨fun x => ?_, fun z => ?_, fun x => ?_, fun z => ?_⟩
  ·by_cases e : x = y
   ·subst e; rw [D_eq]; simp [D_nil]
   ·rw [D_ne e]
    have h2 := (D_step b.length [] b (by simp)).1 x
    simp only [D_nil, List.length_cons] at *
    omega
  ·simp only [D_nil, List.length_cons]; omega
  ·by_cases e : x = y
   ·subst e; rw [D_eq]; simp [D_nil]; omega
   ·rw [D_ne e]; simp only [D_nil, List.length_cons]; omega
  ·simp only [D_nil, List.length_cons]; omega
 | n, x :: a, [], h => by
  refine ⟨fun z => ?_, fun y => ?_, fun z => ?_, fun y => ?_⟩
  ·simp only [D_cons_nil, List.length_cons]; omega
  ·by_cases e : x = y
   ·subst e; rw [D_eq]; simp only [D_nil', D_cons_nil, List.length_cons]; omega
   ·rw [D_ne e]
    have h2 := (D_step a.length a [] (by simp)).2.1 y
    simp only [D_nil', List.length_cons] at *
    omega
  ·simp only [D_cons_nil, List.length_cons]; omega
  ·by_cases e : x = y
   ·subst e; rw [D_eq]; simp only [D_nil', D_cons_nil, List.length_cons]; omega
   ·rw [D_ne e]; simp only [D_nil', D_cons_nil, List.length_cons]; omega
 | 0, x :: a, y :: b, h => by simp at h
 | n + 1, x :: a, y :: b, h => by
  simp only [List.length_cons] at h
  have i1 := D_step n a b (by omega)
  have i2 := D_step n (x :: a) b (by simp only [List.length_cons]; omega)
  have i3 := D_step n a (y :: b) (by simp only [List.length_cons]; omega)
  have hx : ∀ z : α, D (z :: x :: a) (y :: b) ≤ D (x :: a) (y :: b) + 1 := by
   intro z
   by_cases e : z = y
   ·subst e
    rw [D_eq]
    by_cases e2 : x = z
    ·subst e2
     rw [D_eq]
     exact i1.2.2.1 x
    ·rw [D_ne e2]
     have k1 := i2.2.2.2 z
     have k2 := i1.2.2.1 x
     have k3 := i1.2.1 z
     omega
   ·rw [D_ne e]; omega
  have hy : ∀ z : α, D (x :: a) (z :: y :: b) ≤ D (x :: a) (y :: b) + 1 := by
   intro z
   by_cases e : x = z
   ·subst e
    rw [D_eq]
    by_cases e2 : x = y
    ·subst e2
     rw [D_eq]
     exact i1.2.2.2 x
    ·rw [D_ne e2]
     have k2 := i1.2.2.2 y
     have k3 := i1.1 x
     omega
   ·rw [D_ne e]; omega
  have gx : ∀ z : α, D (x :: a) (y :: b) ≤ D (z :: x :: a) (y :: b) + 1 := by
   intro z
   by_cases e : z = y
   ·subst e
    rw [D_eq]
    exact i2.2.2.2 z
   ·rw [D_ne e]
    have k1 := i2.1 z
    have k2 := i2.2.2.2 y
    omega
  have gy : ∀ z : α, D (x :: a) (y :: b) ≤ D (x :: a) (z :: y :: b) + 1 := by
   intro z
   by_cases e : x = z
   ·subst e
    rw [D_eq]
    exact i3.2.2.1 x
   ·rw [D_ne e]
    have k1 := i3.2.1 z
    have k2 := i3.2.2.1 x
    omega
  exact ⟨gx, gy, hx, hy⟩
theorem D_le {α : Type} [DecidableEq α] {a b : List α} {n : Nat} (h : Ed a b n) : D a b ≤ n := by
 induction h with
 | nil => rw [D_nil]; exact Nat.le_refl _
 | keep x _ ih => rw [D_eq]; exact ih
 | @del x a b n _ ih => have := (D_step _ a b (Nat.le_refl _)).2.2.1 x; omega
 | @ins y a b n _ ih => have := (D_step _ a b (Nat.le_refl _)).2.2.2 y; omega
theorem D_ed {α : Type} [DecidableEq α] (a b : List α) : Ed a b (D a b) := D_Ed _ a b (Nat.le_refl _)
theorem D_symm {α : Type} [DecidableEq α] (a b : List α) : D a b = D b a :=
 Nat.le_antisymm (D_le (D_ed b a).symm) (D_le (D_ed a b).symm)
theorem D_tri {α : Type} [DecidableEq α] (a b c : List α) : D a c ≤ D a b + D b c := by
 obtain ⟨k, hk, e⟩ := (D_ed a b).comp (D_ed b c)
 exact Nat.le_trans (D_le e) hk
theorem D_self {α : Type} [DecidableEq α] (a : List α) : D a a = 0 := Nat.le_antisymm (D_le (Ed.refl a)) (Nat.zero_le _)
end Go.Proofs.YtfpopmojlmpopaaDoor.L

end
section
namespace Go.Proofs.YtfpopmojlmpopaaDoor.G
open Go.RowKit Go.Proofs.YtfpopmojlmpopaaDoorW.PrintWords Go.Proofs.YtfpopmojlmpopaaDoorW.PrintLast Go.Proofs.YtfpopmojlmpopaaDoorW.PrintMore
attribute [local go_sem] max2_int min2_int max_two min_two max_three min_three max_four min_four
set_option linter.unusedVariables false
set_option linter.unusedSimpArgs false
def slices_Equal_string_string.l0 : Nat → List ByteArray → List ByteArray → Int → Int → Option (Bool)
 | 0, _, _, _, _ => none
 | k + 1, x0, x1, x12, x13 => if x13 < x12 then (if 0 ≤ x13 then (if x13 < (x0.length : Int) then (if x13 < (x1.length : Int) then (if (rdOf ByteArray.empty x0 x13).toList = (rdOf ByteArray.empty x1 x13).toList then (slices_Equal_string_string.l0 k x0 x1 x12 (wrap64 (x13 + 1))) else (some false)) else (none)) else (none)) else (none)) else (some true)
def slices_Equal_string_string.f (k : Nat) (l0 : List ByteArray) (l1 : List ByteArray) : Option (Bool) := if (l0.length : Int) = (l1.length : Int) then (slices_Equal_string_string.l0 k l0 l1 (l0.length : Int) 0) else (some false)
set_option maxHeartbeats 8000000 in
set_option maxRecDepth 100000 in
theorem slices_Equal_string_string.calls (k : Nat) (A0 : Option Addr) (c0 : Nat) (l0 : List ByteArray) (A1 : Option Addr) (c1 : Nat) (l1 : List ByteArray) (r : Bool) (w : World) (hr0 : Kd.C Kd.string w A0 l0.length l0) (hc0 : l0.length ≤ c0) (hr1 : Kd.C Kd.string w A1 l1.length l1) (hc1 : l1.length ≤ c1) (h : slices_Equal_string_string.f k l0 l1 = some r) :
  Calls Tryd.prog 49 #[.slice A0 l0.length c0, .slice A1 l1.length c1] w fun e w' => e = .returned (.bool r) ∧ Drawn0 w w' := by
 have HR0 := Aside0.mk hr0
 have HC0 := Aside0.mk hc0
 clear hr0 hc0
 have HR1 := Aside0.mk hr1
 have HC1 := Aside0.mk hc1
 clear hr1 hc1
 have H : (if (l0.length : Int) = (l1.length : Int) then (slices_Equal_string_string.l0 k l0 l1 (l0.length : Int) 0) else (some false)) = some r := h
 clear h
 by_cases c3 : (l0.length : Int) = (l1.length : Int)
 ·rw [if_pos c3] at H
  have c3b0 : ((l0.length : Int) == (l1.length : Int)) = true := beq_iff_eq.mpr c3
  have c3b1 : ((l0.length : Int) != (l1.length : Int)) = false := bne_eq_false_iff_eq.mpr c3
  have c3b2 : (l0.length == l1.length) = true := by first | simpa using c3 | (simp at c3 ⊢; omega)
  clear c3
  have H' := Aside0.mk H
  clear H
  go_enter Tryd.func49, Tryd.ntmps49
  go_wp2
  repeat (go_quiet (fail); try go_wp2)
  go_loopg [13] k (fun kq v13 w' => ∃ (x13_1 : Int), v13 = .int .i64 x13_1 ∧ Aside0 (slices_Equal_string_string.l0 kq l0 l1 (l0.length : Int) x13_1 = some r) ∧ Aside0 (kq ≤ k) ∧ Drawn0 w w')
  case atStart => exact ⟨(0), (by first | rfl | (simp; done) | (simp [*]; done)), H', ⟨Nat.le_refl _⟩, by repeat (first | exact Drawn0.refl _ | apply Drawn0.step)⟩
  case round =>
   clear H'
   try clear c1
   try clear p2
   try clear c3
   try clear c3b0
   try clear c3b1
   try clear c3b2
   obtain ⟨x13_1, rfl, HA, HK1, ⟨m1, rfl⟩⟩ := hrel
   cases gk with
   | zero => exact absurd HA.out (by simp [slices_Equal_string_string.l0])
   | succ k1 =>
    have H := HA.out
    clear HA
    simp only [slices_Equal_string_string.l0] at H
    by_cases c4 : x13_1 < (l0.length : Int)
    ·rw [if_pos c4] at H
     have c4b0 : decide (x13_1 < (l0.length : Int)) = true := decide_eq_true c4
     clear c4
     by_cases c5 : 0 ≤ x13_1
     ·rw [if_pos c5] at H
      have c5b0 : decide (0 ≤ x13_1) = true := decide_eq_true c5
      clear c5
      by_cases c6 : x13_1 < (l0.length : Int)
      ·rw [if_pos c6] at H
       have c6b0 : decide (x13_1 < (l0.length : Int)) = true := decide_eq_true c6
       clear c6
       by_cases c7 : x13_1 < (l1.length : Int)
       ·rw [if_pos c7] at H
        have c7b0 : decide (x13_1 < (l1.length : Int)) = true := decide_eq_true c7
        clear c7
        by_cases c8 : (rdOf ByteArray.empty l0 x13_1).toList = (rdOf ByteArray.empty l1 x13_1).toList
        ·rw [if_pos c8] at H
         have c8b0 : ((rdOf ByteArray.empty l0 x13_1).toList == (rdOf ByteArray.empty l1 x13_1).toList) = true := beq_iff_eq.mpr c8
         have c8b1 : ((rdOf ByteArray.empty l0 x13_1).toList != (rdOf ByteArray.empty l1 x13_1).toList) = false := bne_eq_false_iff_eq.mpr c8
         clear c8
         have H' := Aside0.mk H
         clear H
         have p436 : 0 ≤ (x13_1 : Int) := of_decide_eq_true (by first | (with_reducible assumption) | assumption)
         have q436 : x13_1 < (l0.length : Int) := of_decide_eq_true (by first | (with_reducible assumption) | assumption)
         obtain ⟨ad436, e436, hx436_0⟩ := Kd.at_string HR0.out x13_1 p436 q436
         cases e436
         replace p436 := eq_true p436
         replace q436 := eq_true q436
         have p437 : 0 ≤ (x13_1 : Int) := of_decide_eq_true (by first | (with_reducible assumption) | assumption)
         have q437 : x13_1 < (l1.length : Int) := of_decide_eq_true (by first | (with_reducible assumption) | assumption)
         obtain ⟨ad437, e437, hx437_0⟩ := Kd.at_string HR1.out x13_1 p437 q437
         cases e437
         replace p437 := eq_true p437
         replace q437 := eq_true q437
         go_wp2
         repeat (go_quiet (fail); try go_wp2)
         go_roundg k1
         case measure => have := HK1.out; omega
         case rel => exact ⟨(wrap64 (x13_1 + 1)), (by first | rfl | (simp; done) | (simp [*]; done)), H', ⟨by have := HK1.out; omega⟩, by repeat (first | exact Drawn0.refl _ | apply Drawn0.step)⟩
        ·rw [if_neg c8] at H
         have c8b0 : ((rdOf ByteArray.empty l0 x13_1).toList == (rdOf ByteArray.empty l1 x13_1).toList) = false := beq_eq_false_iff_ne.mpr c8
         have c8b1 : ((rdOf ByteArray.empty l0 x13_1).toList != (rdOf ByteArray.empty l1 x13_1).toList) = true := bne_iff_ne.mpr c8
         obtain rfl := Option.some.inj H
         have p436 : 0 ≤ (x13_1 : Int) := of_decide_eq_true (by first | (with_reducible assumption) | assumption)
         have q436 : x13_1 < (l0.length : Int) := of_decide_eq_true (by first | (with_reducible assumption) | assumption)
         obtain ⟨ad436, e436, hx436_0⟩ := Kd.at_string HR0.out x13_1 p436 q436
         cases e436
         replace p436 := eq_true p436
         replace q436 := eq_true q436
         have p437 : 0 ≤ (x13_1 : Int) := of_decide_eq_true (by first | (with_reducible assumption) | assumption)
         have q437 : x13_1 < (l1.length : Int) := of_decide_eq_true (by first | (with_reducible assumption) | assumption)
         obtain ⟨ad437, e437, hx437_0⟩ := Kd.at_string HR1.out x13_1 p437 q437
         cases e437
         replace p437 := eq_true p437
         replace q437 := eq_true q437
         go_wp2
         repeat (go_quiet (fail); try go_wp2)
         go_ret
         exact ⟨by first | rfl | (simp; done) | (simp [*]; done), by repeat (first | exact Drawn0.refl _ | apply Drawn0.step)⟩
       ·rw [if_neg c7] at H
        exact absurd H (by simp)
      ·rw [if_neg c6] at H
       exact absurd H (by simp)
     ·rw [if_neg c5] at H
      exact absurd H (by simp)
    ·rw [if_neg c4] at H
     have c4b0 : decide (x13_1 < (l0.length : Int)) = false := decide_eq_false c4
     clear c4
     obtain rfl := Option.some.inj H
     go_wp2
     repeat (go_quiet (fail); try go_wp2)
     go_ret
     exact ⟨by first | rfl | (simp; done) | (simp [*]; done), by repeat (first | exact Drawn0.refl _ | apply Drawn0.step)⟩
 ·rw [if_neg c3] at H
  have c3b0 : ((l0.length : Int) == (l1.length : Int)) = false := beq_eq_false_iff_ne.mpr c3
  have c3b1 : ((l0.length : Int) != (l1.length : Int)) = true := bne_iff_ne.mpr c3
  have c3b2 : (l0.length == l1.length) = false := by first | simpa using c3 | (simp at c3 ⊢; omega)
  obtain rfl := Option.some.inj H
  go_enter Tryd.func49, Tryd.ntmps49
  go_wp2
  repeat (go_quiet (fail); try go_wp2)
  go_ret
  exact ⟨by first | rfl | (simp; done) | (simp [*]; done), by repeat (first | exact Drawn0.refl _ | apply Drawn0.step)⟩
end Go.Proofs.YtfpopmojlmpopaaDoor.G

end
section
namespace Go.Proofs.YtfpopmojlmpopaaDoor.H
open Go.RowKit Go.Proofs.YtfpopmojlmpopaaDoorW.PrintWords Go.Proofs.YtfpopmojlmpopaaDoorW.PrintLast Go.Proofs.YtfpopmojlmpopaaDoorW.PrintMore Go.Proofs.YtfpopmojlmpopaaDoor.G
set_option linter.unusedVariables false
set_option linter.unusedSimpArgs false
def sameE (x y : S52) : Bool := (x.f0 == y.f0) && ((x.f1 == y.f1) && decide (x.f2 = y.f2))
theorem eqL_tail (l0 l1 : List ByteArray) (hl : l0.length = l1.length) (hb : l0.length ≤ 9223372036854775807) : ∀ (m k : Nat), k + m = l0.length → l0.take k = l1.take k →
  ∀ K, m < K → slices_Equal_string_string.l0 K l0 l1 (l0.length : Int) (k : Int) = some (decide (l0 = l1))
 | 0, k, hk, ht, K, hK => by
  obtain ⟨K, rfl⟩ : ∃ K', K = K' + 1 := ⟨K - 1, by omega⟩
  rw [slices_Equal_string_string.l0, if_neg (by omega)]
  rw [List.take_of_length_le (by omega), List.take_of_length_le (by omega)] at ht
  simp [ht]
 | m + 1, k, hk, ht, K, hK => by
  obtain ⟨K, rfl⟩ : ∃ K', K = K' + 1 := ⟨K - 1, by omega⟩
  rw [slices_Equal_string_string.l0, if_pos (by omega), if_pos (by omega), if_pos (by omega), if_pos (by omega)]
  have e0 : rdOf ByteArray.empty l0 (k : Int) = l0[k]'(by omega) := by simp [rdOf, List.getD, show k < l0.length from by omega]
  have e1 : rdOf ByteArray.empty l1 (k : Int) = l1[k]'(by omega) := by simp [rdOf, List.getD, show k < l1.length from by omega]
  rw [e0, e1]
  by_cases he : (l0[k]'(by omega)).toList = (l1[k]'(by omega)).toList
  ·rw [if_pos he]
   have he' : l0[k]'(by omega) = l1[k]'(by omega) := by
    rw [ByteArray.toList_eq, ByteArray.toList_eq] at he
    generalize l0[k]'(by omega) = x at he ⊢
    generalize l1[k]'(by omega) = y at he ⊢
    obtain ⟨⟨x⟩⟩ := x
    obtain ⟨⟨y⟩⟩ := y
    simp only at he
    rw [he]
   rw [show wrap64 ((k : Int) + 1) = ((k + 1 : Nat) : Int) from by simp only [wrap64]; omega]
   exact eqL_tail l0 l1 hl hb m (k + 1) (by omega) (by rw [List.take_add_one, List.take_add_one, ht, List.getElem?_eq_getElem (by omega), List.getElem?_eq_getElem (by omega), he']) K (by omega)
  ·rw [if_neg he]
   have : l0 ≠ l1 := by rintro rfl; exact he rfl
   simp [this]
theorem eqL (l0 l1 : List ByteArray) (hb : l0.length ≤ 9223372036854775807) : slices_Equal_string_string.f (l0.length + 1) l0 l1 = some (decide (l0 = l1)) := by
 unfold slices_Equal_string_string.f
 by_cases hl : l0.length = l1.length
 ·rw [if_pos (by omega)]
  exact eqL_tail l0 l1 hl hb l0.length 0 (by omega) rfl _ (by omega)
 ·rw [if_neg (by omega)]
  have : l0 ≠ l1 := by rintro rfl; exact hl rfl
  simp [this]
theorem eqLines_calls (A0 : Option Addr) (c0 : Nat) (l0 : List ByteArray) (A1 : Option Addr) (c1 : Nat) (l1 : List ByteArray) (w : World) (h0 : Kd.C Kd.string w A0 l0.length l0) (hc0 : l0.length ≤ c0) (h1 : Kd.C Kd.string w A1 l1.length l1) (hc1 : l1.length ≤ c1) :
  Calls Tryd.prog 49 #[.slice A0 l0.length c0, .slice A1 l1.length c1] w fun e w' => e = .returned (.bool (decide (l0 = l1))) ∧ Below w.heap.size w w' :=
 (slices_Equal_string_string.calls (l0.length + 1) A0 c0 l0 A1 c1 l1 _ w h0 hc0 h1 hc1 (eqL l0 l1 (Kd.C_max h0))).mono (by rintro e w' ⟨rfl, hd⟩; exact ⟨rfl, hd.below⟩)
theorem C_ofE {α : Type} {d : Kd α} {w W : World} {A : Option Addr} {n : Nat} {l : List α} (h : Kd.C d w A n l) (hb : Below w.heap.size w W) : Kd.C d W A n l := Kd.C_below h hb
set_option maxHeartbeats 1000000 in
set_option maxRecDepth 100000 in
theorem sameEdit_calls (x y : S52) (A0 : Option Addr) (c0 : Nat) (A1 : Option Addr) (c1 : Nat) (w : World) (h0 : Kd.C Kd.string w A0 x.f2.length x.f2) (hc0 : x.f2.length ≤ c0) (h1 : Kd.C Kd.string w A1 y.f2.length y.f2) (hc1 : y.f2.length ≤ c1) :
  Calls Tryd.prog 51 #[.agg #[.int .i64 x.f0, .int .i64 x.f1, .slice A0 x.f2.length c0], .agg #[.int .i64 y.f0, .int .i64 y.f1, .slice A1 y.f2.length c1]] w fun e w' => e = .returned (.bool (sameE x y)) ∧ Below w.heap.size w w' := by
 have H0 := Lib.hid h0
 have H1 := Lib.hid h1
 clear h0 h1
 obtain ⟨x0, x1, x2⟩ := x
 obtain ⟨y0, y1, y2⟩ := y
 simp only at H0 H1 hc0 hc1 ⊢
 obtain ⟨q0, h0⟩ : ∃ q : Bool, (x0 == y0) = q := ⟨_, rfl⟩
 obtain ⟨q1, h1⟩ : ∃ q : Bool, (x1 == y1) = q := ⟨_, rfl⟩
 unfold sameE
 simp only [h0, h1]
 go_enter Tryd.func51, Tryd.ntmps51
 cases q0
 ·go_wp2_with fail
  go_ret
  exact ⟨rfl, by (repeat (first | (with_reducible first | exact Below.refl _ _ | apply below_alloc | apply pw_below_drewN | apply below_drew) | exact Below.refl _ _))⟩
 ·cases q1
  ·go_wp2_with fail
   go_ret
   exact ⟨rfl, by (repeat (first | (with_reducible first | exact Below.refl _ _ | apply below_alloc | apply pw_below_drewN | apply below_drew) | exact Below.refl _ _))⟩
  ·go_wp2_with fail
   refine (eqLines_calls A0 c0 x2 A1 c1 y2 _ (C_ofE H0.out (by (repeat (first | (with_reducible first | exact Below.refl _ _ | apply below_alloc | apply pw_below_drewN | apply below_drew) | exact Below.refl _ _)))) hc0 (C_ofE H1.out (by (repeat (first | (with_reducible first | exact Below.refl _ _ | apply below_alloc | apply pw_below_drewN | apply below_drew) | exact Below.refl _ _)))) hc1).mono ?_
   rintro e w1 ⟨rfl, hb⟩
   have HB : Hid (Below w.heap.size w w1) := Lib.hid (below_step (by (repeat (first | (with_reducible first | exact Below.refl _ _ | apply below_alloc | apply pw_below_drewN | apply below_drew) | exact Below.refl _ _))) hb)
   clear hb
   go_wp2_with fail
   go_ret
   exact ⟨rfl, HB.out⟩
def eqEdits (l0 l1 : List S52) : Bool := decide (l0.length = l1.length) && (List.zipWith sameE l0 l1).all id
theorem eqEdits_no (l0 l1 : List S52) (k : Nat) (h0 : k < l0.length) (h1 : k < l1.length) (h : sameE (rd_T52 l0 k) (rd_T52 l1 k) = false) : eqEdits l0 l1 = false := by
 unfold eqEdits
 rw [Bool.and_eq_false_iff]
 refine .inr (List.all_eq_false.2 ⟨false, ?_, by simp⟩)
 rw [List.mem_iff_getElem]
 refine ⟨k, by simp; omega, ?_⟩
 rw [List.getElem_zipWith]
 simpa [rd_T52, List.getD, h0, h1] using h
theorem eqEdits_yes (l0 l1 : List S52) (hl : l0.length = l1.length) (h : ∀ k : Nat, k < l0.length → sameE (rd_T52 l0 k) (rd_T52 l1 k) = true) : eqEdits l0 l1 = true := by
 unfold eqEdits
 rw [Bool.and_eq_true]
 refine ⟨by simpa using hl, List.all_eq_true.2 fun b hb => ?_⟩
 rw [List.mem_iff_getElem] at hb
 obtain ⟨k, hk, rfl⟩ := hb
 rw [List.getElem_zipWith]
 have hk0 : k < l0.length := by simp at hk; omega
 have hk1 : k < l1.length := by omega
 simpa [rd_T52, List.getD, hk0, hk1] using h k hk0
set_option maxHeartbeats 4000000 in
set_option maxRecDepth 100000 in
theorem EqualFunc_calls (l0 l1 : List S52) (A0 : Option Addr) (c0 : Nat) (A1 : Option Addr) (c1 : Nat) (w : World) (h0 : Kd.C k52 w A0 l0.length l0) (hc0 : l0.length ≤ c0) (h1 : Kd.C k52 w A1 l1.length l1) (hc1 : l1.length ≤ c1) :
  Calls Tryd.prog 50 #[.slice A0 l0.length c0, .slice A1 l1.length c1, .func (.func 51) #[] #[]] w fun e w' => e = .returned (.bool (eqEdits l0 l1)) ∧ Below w.heap.size w w' := by
 have H0 := Lib.hid h0
 have H1 := Lib.hid h1
 clear h0 h1
 have hm0 := Kd.C_max H0.out
 have hm1 := Kd.C_max H1.out
 obtain ⟨r, hr⟩ : ∃ r, eqEdits l0 l1 = r := ⟨_, rfl⟩
 rw [hr]
 have HR := Lib.hid hr
 clear hr
 go_enter Tryd.func50, Tryd.ntmps50
 by_cases hl : l0.length = l1.length
 ·have e1 : ((l0.length : Int) == (l1.length : Int)) = true := by rw [hl]; exact beq_self_eq_true _
  have e2 : ((l0.length : Int) != (l1.length : Int)) = false := by rw [bne, e1]; rfl
  have HLN := Lib.hid hl
  clear hl
  go_wp2_with fail
  go_loopw [17] (fun v wr => ∃ k : Nat, k ≤ l0.length ∧ v = .int .i64 k ∧ Hid (∀ j, j < k → sameE (rd_T52 l0 j) (rd_T52 l1 j) = true) ∧ Hid (Below w.heap.size w wr)) (fun v _ => l0.length - (intOf v).toNat)
  case atStart => exact ⟨0, by omega, rfl, Lib.hid (fun j hj => by omega), Lib.hid (Below.refl _ _)⟩
  case round =>
   obtain ⟨k, hk, rfl, HA, HB⟩ := hrel
   by_cases hlt : k < l0.length
   ·obtain ⟨ad, Ax, cx, rfl, hx0, hx1, hx2, hcx, hgx⟩ := at_T52 (C_ofE H0.out HB.out) k (by omega) (by omega)
    obtain ⟨bd, Ay, cy, rfl, hy0, hy1, hy2, hcy, hgy⟩ := at_T52 (C_ofE H1.out HB.out) k (by omega) (by have := HLN.out; omega)
    obtain ⟨x, hx⟩ : ∃ x, rd_T52 l0 k = x := ⟨_, rfl⟩
    obtain ⟨y, hy⟩ : ∃ y, rd_T52 l1 k = y := ⟨_, rfl⟩
    rw [hx] at hx0 hx1 hx2 hcx hgx
    rw [hy] at hy0 hy1 hy2 hcy hgy
    have HGX := Lib.hid hgx
    have HGY := Lib.hid hgy
    have HHX := Lib.hid hx
    have HHY := Lib.hid hy
    clear hx hy hgx hgy
    rw [Int.toNat_natCast] at hx0 hx1 hx2 hy0 hy1 hy2
    have hu52 := Tryd.underlying52
    have hlt2 : k < l1.length := by have := HLN.out; omega
    have k0 := eq_true (show (k : Int) < (l0.length : Int) from by omega)
    have k1 := eq_true (show (k : Int) < (l1.length : Int) from by omega)
    have k2 := eq_true (show (0 : Int) ≤ (k : Int) from by omega)
    have g0 := pw_cell_below (below_alloc (Below.refl wr.heap.size wr) (Obj.cells #[.int .i64 x.f0, .int .i64 x.f1, .slice Ax x.f2.length cx] 52)) hy0
    have g1 := pw_cell_below (below_alloc (Below.refl wr.heap.size wr) (Obj.cells #[.int .i64 x.f0, .int .i64 x.f1, .slice Ax x.f2.length cx] 52)) hy1
    have g2 := pw_cell_below (below_alloc (Below.refl wr.heap.size wr) (Obj.cells #[.int .i64 x.f0, .int .i64 x.f1, .slice Ax x.f2.length cx] 52)) hy2
    go_wp2_with fail
    refine (sameEdit_calls x y Ax cx Ay cy _ (C_ofE HGX.out (by (repeat (first | (with_reducible first | exact Below.refl _ _ | apply below_alloc | apply pw_below_drewN | apply below_drew) | exact Below.refl _ _)))) hcx (C_ofE HGY.out (by (repeat (first | (with_reducible first | exact Below.refl _ _ | apply below_alloc | apply pw_below_drewN | apply below_drew) | exact Below.refl _ _)))) hcy).mono ?_
    rintro e w1 ⟨rfl, hb⟩
    have HB1 : Hid (Below w.heap.size w w1) := Lib.hid (HB.out.trans ((below_step (by (repeat (first | (with_reducible first | exact Below.refl _ _ | apply below_alloc | apply pw_below_drewN | apply below_drew) | exact Below.refl _ _))) hb : Below wr.heap.size wr w1).mono HB.out.size))
    clear hb
    obtain ⟨q, hq⟩ : ∃ q, sameE x y = q := ⟨_, rfl⟩
    rw [hq]
    cases q
    ·go_wp2_with fail
     go_ret
     exact ⟨by rw [← HR.out, eqEdits_no l0 l1 k hlt hlt2 (by rw [HHX.out, HHY.out, hq])]; rfl, HB1.out⟩
    ·go_wp2_with fail
     go_roundw
     case rel => exact ⟨k + 1, by omega, by go_num, Lib.hid (fun j hj => by
      rcases Nat.lt_succ_iff_lt_or_eq.1 hj with hj | rfl
      ·exact HA.out j hj
      ·rw [HHX.out, HHY.out, hq]), Lib.hid HB1.out⟩
     case measure => simp [intOf]; omega
   ·have k0 := eq_false (show ¬ (k : Int) < (l0.length : Int) from by omega)
    have k1 := eq_false (show ¬ (k : Int) < (l1.length : Int) from by have := HLN.out; omega)
    go_wp2_with fail
    go_ret
    exact ⟨by rw [← HR.out, eqEdits_yes l0 l1 HLN.out (fun j hj => HA.out j (by omega))]; rfl, HB.out⟩
 ·have e1 : ((l0.length : Int) == (l1.length : Int)) = false := beq_eq_false_iff_ne.mpr (by omega)
  have e2 : ((l0.length : Int) != (l1.length : Int)) = true := by rw [bne, e1]; rfl
  go_wp2_with fail
  go_ret
  exact ⟨by rw [← HR.out]; simp [eqEdits, hl], Below.refl _ _⟩
def eqF (a0_0 : Int) (a0_1 : Int) (a0_2 : Int) (a0_3 : Int) (a0_4 : Int) (l0_5 : List ByteArray) (l0_6 : List S52) (a1_0 : Int) (a1_1 : Int) (a1_2 : Int) (a1_3 : Int) (a1_4 : Int) (l1_5 : List ByteArray) (l1_6 : List S52) : Bool := (a0_0 == a1_0) && ((a0_1 == a1_1) && ((a0_2 == a1_2) && ((a0_3 == a1_3) && ((a0_4 == a1_4) && (decide (l0_5 = l1_5) && eqEdits l0_6 l1_6)))))
def frame_Equal.f (k : Nat) (a0_0 : Int) (a0_1 : Int) (a0_2 : Int) (a0_3 : Int) (a0_4 : Int) (l0_5 : List ByteArray) (l0_6 : List S52) (a1_0 : Int) (a1_1 : Int) (a1_2 : Int) (a1_3 : Int) (a1_4 : Int) (l1_5 : List ByteArray) (l1_6 : List S52) : Option Bool := some (eqF a0_0 a0_1 a0_2 a0_3 a0_4 l0_5 l0_6 a1_0 a1_1 a1_2 a1_3 a1_4 l1_5 l1_6)
set_option maxHeartbeats 8000000 in
set_option maxRecDepth 100000 in
theorem frame_Equal.calls (k : Nat) (a0_0 : Int) (a0_1 : Int) (a0_2 : Int) (a0_3 : Int) (a0_4 : Int) (A0_5 : Option Addr) (c0_5 : Nat) (l0_5 : List ByteArray) (A0_6 : Option Addr) (c0_6 : Nat) (l0_6 : List S52) (a1_0 : Int) (a1_1 : Int) (a1_2 : Int) (a1_3 : Int) (a1_4 : Int) (A1_5 : Option Addr) (c1_5 : Nat) (l1_5 : List ByteArray) (A1_6 : Option Addr) (c1_6 : Nat) (l1_6 : List S52) (r : Bool) (w : World) (hr0_5 : Kd.C Kd.string w A0_5 l0_5.length l0_5) (hc0_5 : l0_5.length ≤ c0_5) (hr0_6 : Kd.C k52 w A0_6 l0_6.length l0_6) (hc0_6 : l0_6.length ≤ c0_6) (hr1_5 : Kd.C Kd.string w A1_5 l1_5.length l1_5) (hc1_5 : l1_5.length ≤ c1_5) (hr1_6 : Kd.C k52 w A1_6 l1_6.length l1_6) (hc1_6 : l1_6.length ≤ c1_6) (h : frame_Equal.f k a0_0 a0_1 a0_2 a0_3 a0_4 l0_5 l0_6 a1_0 a1_1 a1_2 a1_3 a1_4 l1_5 l1_6 = some r) :
  Calls Tryd.prog 25 #[.agg #[.int .i64 a0_0, .int .i64 a0_1, .int .i64 a0_2, .int .i64 a0_3, .int .i64 a0_4, .slice A0_5 l0_5.length c0_5, .slice A0_6 l0_6.length c0_6], .agg #[.int .i64 a1_0, .int .i64 a1_1, .int .i64 a1_2, .int .i64 a1_3, .int .i64 a1_4, .slice A1_5 l1_5.length c1_5, .slice A1_6 l1_6.length c1_6]] w fun e w' => e = .returned (.bool r) ∧ Below w.heap.size w w' := by
 obtain rfl : eqF a0_0 a0_1 a0_2 a0_3 a0_4 l0_5 l0_6 a1_0 a1_1 a1_2 a1_3 a1_4 l1_5 l1_6 = r := Option.some.inj h
 clear h
 have H05 := Lib.hid hr0_5
 have H06 := Lib.hid hr0_6
 have H15 := Lib.hid hr1_5
 have H16 := Lib.hid hr1_6
 clear hr0_5 hr0_6 hr1_5 hr1_6
 obtain ⟨q5, h5⟩ : ∃ q : Bool, decide (l0_5 = l1_5) = q := ⟨_, rfl⟩
 obtain ⟨q6, h6⟩ : ∃ q : Bool, eqEdits l0_6 l1_6 = q := ⟨_, rfl⟩
 obtain ⟨q0, h0⟩ : ∃ q : Bool, (a0_0 == a1_0) = q := ⟨_, rfl⟩
 obtain ⟨q1, h1⟩ : ∃ q : Bool, (a0_1 == a1_1) = q := ⟨_, rfl⟩
 obtain ⟨q2, h2⟩ : ∃ q : Bool, (a0_2 == a1_2) = q := ⟨_, rfl⟩
 obtain ⟨q3, h3⟩ : ∃ q : Bool, (a0_3 == a1_3) = q := ⟨_, rfl⟩
 obtain ⟨q4, h4⟩ : ∃ q : Bool, (a0_4 == a1_4) = q := ⟨_, rfl⟩
 unfold eqF
 rw [h0, h1, h2, h3, h4, h5, h6]
 have HQ5 := Lib.hid h5
 have HQ6 := Lib.hid h6
 clear h5 h6
 go_enter Tryd.func25, Tryd.ntmps25
 cases q0
 ·go_wp2_with fail
  go_ret
  exact ⟨rfl, by (repeat (first | (with_reducible first | exact Below.refl _ _ | apply below_alloc | apply pw_below_drewN | apply below_drew) | exact Below.refl _ _))⟩
 ·skip
  cases q1
  ·go_wp2_with fail
   go_ret
   exact ⟨rfl, by (repeat (first | (with_reducible first | exact Below.refl _ _ | apply below_alloc | apply pw_below_drewN | apply below_drew) | exact Below.refl _ _))⟩
  ·skip
   cases q2
   ·go_wp2_with fail
    go_ret
    exact ⟨rfl, by (repeat (first | (with_reducible first | exact Below.refl _ _ | apply below_alloc | apply pw_below_drewN | apply below_drew) | exact Below.refl _ _))⟩
   ·skip
    cases q3
    ·go_wp2_with fail
     go_ret
     exact ⟨rfl, by (repeat (first | (with_reducible first | exact Below.refl _ _ | apply below_alloc | apply pw_below_drewN | apply below_drew) | exact Below.refl _ _))⟩
    ·skip
     cases q4
     ·go_wp2_with fail
      go_ret
      exact ⟨rfl, by (repeat (first | (with_reducible first | exact Below.refl _ _ | apply below_alloc | apply pw_below_drewN | apply below_drew) | exact Below.refl _ _))⟩
     ·skip
      go_wp2_with fail
      refine (eqLines_calls A0_5 c0_5 l0_5 A1_5 c1_5 l1_5 _ (C_ofE H05.out (by (repeat (first | (with_reducible first | exact Below.refl _ _ | apply below_alloc | apply pw_below_drewN | apply below_drew) | exact Below.refl _ _)))) hc0_5 (C_ofE H15.out (by (repeat (first | (with_reducible first | exact Below.refl _ _ | apply below_alloc | apply pw_below_drewN | apply below_drew) | exact Below.refl _ _)))) hc1_5).mono ?_
      rintro e w1 ⟨rfl, hb⟩
      have HB : Hid (Below w.heap.size w w1) := Lib.hid (below_step (by (repeat (first | (with_reducible first | exact Below.refl _ _ | apply below_alloc | apply pw_below_drewN | apply below_drew) | exact Below.refl _ _))) hb)
      have e0 := hb
      rw [HQ5.out]
      cases q5
      ·clear e0 hb
       go_wp2_with fail
       go_ret
       exact ⟨rfl, HB.out⟩
      ·have G0 : w1.cell? ⟨w.heap.size, 6, none⟩ = some (.slice A0_6 l0_6.length c0_6) := pw_cell_below hb ((blk_cell (blk_alloc (heap_alloc_new w _) _) 6).trans rfl)
       have G1 : w1.cell? ⟨w.heap.size + 1, 6, none⟩ = some (.slice A1_6 l1_6.length c1_6) := pw_cell_below hb (by
        simp)
       clear e0 hb
       go_wp2_with fail
       refine (EqualFunc_calls l0_6 l1_6 A0_6 c0_6 A1_6 c1_6 w1 (C_ofE H06.out HB.out) hc0_6 (C_ofE H16.out HB.out) hc1_6).mono ?_
       rintro e w2 ⟨rfl, hb⟩
       have HB2 : Hid (Below w.heap.size w w2) := Lib.hid (below_step HB.out hb)
       clear hb
       rw [HQ6.out]
       go_wp2_with fail
       go_ret
       exact ⟨rfl, HB2.out⟩
end Go.Proofs.YtfpopmojlmpopaaDoor.H

end
section
namespace Go.Proofs.YtfpopmojlmpopaaDoor.G
open Go.RowKit Go.Proofs.YtfpopmojlmpopaaDoorW.PrintWords Go.Proofs.YtfpopmojlmpopaaDoorW.PrintLast Go.Proofs.YtfpopmojlmpopaaDoorW.PrintMore
attribute [local go_sem] max2_int min2_int max_two min_two max_three min_three max_four min_four
set_option linter.unusedVariables false
set_option linter.unusedSimpArgs false
def salchowref49_Few.l0 : Nat → List ByteArray → Int → Option (Bool)
 | 0, _, _ => none
 | k + 1, x0, x3 => if x3 < (x0.length : Int) then (if 0 ≤ x3 then (if ((rdOf ByteArray.empty x0 x3).size : Int) > 200 then (some false) else (salchowref49_Few.l0 k x0 (wrap64 (x3 + 1)))) else (none)) else (some true)
def salchowref49_Few.f (k : Nat) (l0 : List ByteArray) : Option (Bool) := if (l0.length : Int) > 14 then (some false) else (salchowref49_Few.l0 k l0 0)
set_option maxHeartbeats 8000000 in
set_option maxRecDepth 100000 in
theorem salchowref49_Few.calls (k : Nat) (A0 : Option Addr) (c0 : Nat) (l0 : List ByteArray) (r : Bool) (w : World) (hr0 : Kd.C Kd.string w A0 l0.length l0) (hc0 : l0.length ≤ c0) (h : salchowref49_Few.f k l0 = some r) :
  Calls Tryd.prog 16 #[.slice A0 l0.length c0] w fun e w' => e = .returned (.bool r) ∧ Drawn0 w w' := by
 have HR0 := Aside0.mk hr0
 have HC0 := Aside0.mk hc0
 clear hr0 hc0
 have H : (if (l0.length : Int) > 14 then (some false) else (salchowref49_Few.l0 k l0 0)) = some r := h
 clear h
 by_cases c2 : (l0.length : Int) > 14
 ·rw [if_pos c2] at H
  have c2b0 : decide (14 < (l0.length : Int)) = true := decide_eq_true c2
  have c2b1 : decide (14 < l0.length) = true := decide_eq_true (by omega)
  clear c2
  obtain rfl := Option.some.inj H
  go_enter Tryd.func16, Tryd.ntmps16
  go_wp2
  go_ret
  exact ⟨by first | rfl | (simp; done) | (simp [*]; done), by repeat (first | exact Drawn0.refl _ | apply Drawn0.step)⟩
 ·rw [if_neg c2] at H
  have c2b0 : decide (14 < (l0.length : Int)) = false := decide_eq_false c2
  have c2b1 : decide (14 < l0.length) = false := decide_eq_false (by omega)
  clear c2
  have H' := Aside0.mk H
  clear H
  go_enter Tryd.func16, Tryd.ntmps16
  go_wp2
  go_loopg [3] k (fun kq v3 w' => ∃ (x3_1 : Int), v3 = .int .i64 x3_1 ∧ Aside0 (salchowref49_Few.l0 kq l0 x3_1 = some r) ∧ Aside0 (kq ≤ k) ∧ Drawn0 w w')
  case atStart => exact ⟨(0), (by first | rfl | (simp; done) | (simp [*]; done)), H', ⟨Nat.le_refl _⟩, by repeat (first | exact Drawn0.refl _ | apply Drawn0.step)⟩
  case round =>
   clear H'
   try clear c1
   try clear c2
   try clear c2b0
   try clear c2b1
   try clear p2
   obtain ⟨x3_1, rfl, HA, HK1, ⟨m1, rfl⟩⟩ := hrel
   cases gk with
   | zero => exact absurd HA.out (by simp [salchowref49_Few.l0])
   | succ k1 =>
    have H := HA.out
    clear HA
    simp only [salchowref49_Few.l0] at H
    by_cases c3 : x3_1 < (l0.length : Int)
    ·rw [if_pos c3] at H
     have c3b0 : decide (x3_1 < (l0.length : Int)) = true := decide_eq_true c3
     clear c3
     by_cases c4 : 0 ≤ x3_1
     ·rw [if_pos c4] at H
      have c4b0 : decide (0 ≤ x3_1) = true := decide_eq_true c4
      clear c4
      by_cases c5 : ((rdOf ByteArray.empty l0 x3_1).size : Int) > 200
      ·rw [if_pos c5] at H
       have c5b0 : decide (200 < ((rdOf ByteArray.empty l0 x3_1).size : Int)) = true := decide_eq_true c5
       have c5b1 : decide (200 < (rdOf ByteArray.empty l0 x3_1).size) = true := decide_eq_true (by omega)
       clear c5
       obtain rfl := Option.some.inj H
       have p123 : 0 ≤ (x3_1 : Int) := of_decide_eq_true (by first | (with_reducible assumption) | assumption)
       have q123 : x3_1 < (l0.length : Int) := of_decide_eq_true (by first | (with_reducible assumption) | assumption)
       obtain ⟨ad123, e123, hx123_0⟩ := Kd.at_string HR0.out x3_1 p123 q123
       cases e123
       replace p123 := eq_true p123
       replace q123 := eq_true q123
       go_wp2
       go_ret
       exact ⟨by first | rfl | (simp; done) | (simp [*]; done), by repeat (first | exact Drawn0.refl _ | apply Drawn0.step)⟩
      ·rw [if_neg c5] at H
       have c5b0 : decide (200 < ((rdOf ByteArray.empty l0 x3_1).size : Int)) = false := decide_eq_false c5
       have c5b1 : decide (200 < (rdOf ByteArray.empty l0 x3_1).size) = false := decide_eq_false (by omega)
       clear c5
       have H' := Aside0.mk H
       clear H
       have p123 : 0 ≤ (x3_1 : Int) := of_decide_eq_true (by first | (with_reducible assumption) | assumption)
       have q123 : x3_1 < (l0.length : Int) := of_decide_eq_true (by first | (with_reducible assumption) | assumption)
       obtain ⟨ad123, e123, hx123_0⟩ := Kd.at_string HR0.out x3_1 p123 q123
       cases e123
       replace p123 := eq_true p123
       replace q123 := eq_true q123
       go_wp2
       go_roundg k1
       case measure => have := HK1.out; omega
       case rel => exact ⟨(wrap64 (x3_1 + 1)), (by first | rfl | (simp; done) | (simp [*]; done)), H', ⟨by have := HK1.out; omega⟩, by repeat (first | exact Drawn0.refl _ | apply Drawn0.step)⟩
     ·rw [if_neg c4] at H
      exact absurd H (by simp)
    ·rw [if_neg c3] at H
     have c3b0 : decide (x3_1 < (l0.length : Int)) = false := decide_eq_false c3
     clear c3
     obtain rfl := Option.some.inj H
     go_wp2
     go_ret
     exact ⟨by first | rfl | (simp; done) | (simp [*]; done), by repeat (first | exact Drawn0.refl _ | apply Drawn0.step)⟩
end Go.Proofs.YtfpopmojlmpopaaDoor.G

end
section
namespace Go.Proofs.YtfpopmojlmpopaaDoor.G
open Go.RowKit Go.Proofs.YtfpopmojlmpopaaDoorW.PrintWords Go.Proofs.YtfpopmojlmpopaaDoorW.PrintLast Go.Proofs.YtfpopmojlmpopaaDoorW.PrintMore
attribute [local go_sem] max2_int min2_int max_two min_two max_three min_three max_four min_four
set_option linter.unusedVariables false
set_option linter.unusedSimpArgs false
mutual
def salchowref49_lines.l0 : Nat → List ByteArray → Int → Option (Int)
 | 0, _, _ => none
 | k + 1, x0, x3 => if x3 < (x0.length : Int) then (if 0 ≤ x3 then (if ((rdOf ByteArray.empty x0 x3).size : Int) > 160 then (some 6) else (salchowref49_lines.l0 k x0 (wrap64 (x3 + 1)))) else (none)) else (salchowref49_lines.l1 k x0 0)
def salchowref49_lines.l1 : Nat → List ByteArray → Int → Option (Int)
 | 0, _, _ => none
 | k + 1, x0, x4 => if x4 < (x0.length : Int) then (salchowref49_lines.l2 k x0 x4 0) else (some 0)
def salchowref49_lines.l2 : Nat → List ByteArray → Int → Int → Option (Int)
 | 0, _, _, _ => none
 | k + 1, x0, x4, x5 => if 0 ≤ x4 then (if x4 < (x0.length : Int) then (if x5 < ((rdOf ByteArray.empty x0 x4).size : Int) then (if 0 ≤ x5 then (if (bt (rdOf ByteArray.empty x0 x4) x5) < 32 then (some 2) else (if (bt (rdOf ByteArray.empty x0 x4) x5) > 126 then (some 2) else (salchowref49_lines.l2 k x0 x4 (wrap64 (x5 + 1))))) else (none)) else (salchowref49_lines.l1 k x0 (wrap64 (x4 + 1)))) else (none)) else (none)
end
def salchowref49_lines.f (k : Nat) (l0 : List ByteArray) : Option (Int) := if (l0.length : Int) > 4096 then (some 6) else (salchowref49_lines.l0 k l0 0)
set_option maxHeartbeats 8000000 in
set_option maxRecDepth 100000 in
theorem salchowref49_lines.calls (k : Nat) (A0 : Option Addr) (c0 : Nat) (l0 : List ByteArray) (r : Int) (w : World) (hr0 : Kd.C Kd.string w A0 l0.length l0) (hc0 : l0.length ≤ c0) (h : salchowref49_lines.f k l0 = some r) :
  Calls Tryd.prog 48 #[.slice A0 l0.length c0] w fun e w' => e = .returned (.int .i64 r) ∧ Drawn0 w w' := by
 have HR0 := Aside0.mk hr0
 have HC0 := Aside0.mk hc0
 clear hr0 hc0
 have H : (if (l0.length : Int) > 4096 then (some 6) else (salchowref49_lines.l0 k l0 0)) = some r := h
 clear h
 by_cases c2 : (l0.length : Int) > 4096
 ·rw [if_pos c2] at H
  have c2b0 : decide (4096 < (l0.length : Int)) = true := decide_eq_true c2
  have c2b1 : decide (4096 < l0.length) = true := decide_eq_true (by omega)
  clear c2
  obtain rfl := Option.some.inj H
  go_enter Tryd.func48, Tryd.ntmps48
  go_wp2
  go_ret
  exact ⟨by first | rfl | (simp; done) | (simp [*]; done), by repeat (first | exact Drawn0.refl _ | apply Drawn0.step)⟩
 ·rw [if_neg c2] at H
  have c2b0 : decide (4096 < (l0.length : Int)) = false := decide_eq_false c2
  have c2b1 : decide (4096 < l0.length) = false := decide_eq_false (by omega)
  clear c2
  have H' := Aside0.mk H
  clear H
  go_enter Tryd.func48, Tryd.ntmps48
  go_wp2
  go_loopg [3] k (fun kq v3 w' => ∃ (x3_1 : Int), v3 = .int .i64 x3_1 ∧ Aside0 (salchowref49_lines.l0 kq l0 x3_1 = some r) ∧ Aside0 (kq ≤ k) ∧ Drawn0 w w')
  case atStart => exact ⟨(0), (by first | rfl | (simp; done) | (simp [*]; done)), H', ⟨Nat.le_refl _⟩, by repeat (first | exact Drawn0.refl _ | apply Drawn0.step)⟩
  case round =>
   clear H'
   try clear c2
   try clear c2b0
   try clear c2b1
   try clear p2
   obtain ⟨x3_1, rfl, HA, HK1, ⟨m1, rfl⟩⟩ := hrel
   cases gk with
   | zero => exact absurd HA.out (by simp [salchowref49_lines.l0])
   | succ k1 =>
    have H := HA.out
    clear HA
    simp only [salchowref49_lines.l0] at H
    by_cases c3 : x3_1 < (l0.length : Int)
    ·rw [if_pos c3] at H
     have c3b0 : decide (x3_1 < (l0.length : Int)) = true := decide_eq_true c3
     clear c3
     by_cases c4 : 0 ≤ x3_1
     ·rw [if_pos c4] at H
      have c4b0 : decide (0 ≤ x3_1) = true := decide_eq_true c4
      clear c4
      by_cases c5 : ((rdOf ByteArray.empty l0 x3_1).size : Int) > 160
      ·rw [if_pos c5] at H
       have c5b0 : decide (160 < ((rdOf ByteArray.empty l0 x3_1).size : Int)) = true := decide_eq_true c5
       have c5b1 : decide (160 < (rdOf ByteArray.empty l0 x3_1).size) = true := decide_eq_true (by omega)
       clear c5
       obtain rfl := Option.some.inj H
       have p183 : 0 ≤ (x3_1 : Int) := of_decide_eq_true (by first | (with_reducible assumption) | assumption)
       have q183 : x3_1 < (l0.length : Int) := of_decide_eq_true (by first | (with_reducible assumption) | assumption)
       obtain ⟨ad183, e183, hx183_0⟩ := Kd.at_string HR0.out x3_1 p183 q183
       cases e183
       replace p183 := eq_true p183
       replace q183 := eq_true q183
       go_wp2
       go_ret
       exact ⟨by first | rfl | (simp; done) | (simp [*]; done), by repeat (first | exact Drawn0.refl _ | apply Drawn0.step)⟩
      ·rw [if_neg c5] at H
       have c5b0 : decide (160 < ((rdOf ByteArray.empty l0 x3_1).size : Int)) = false := decide_eq_false c5
       have c5b1 : decide (160 < (rdOf ByteArray.empty l0 x3_1).size) = false := decide_eq_false (by omega)
       clear c5
       have H' := Aside0.mk H
       clear H
       have p183 : 0 ≤ (x3_1 : Int) := of_decide_eq_true (by first | (with_reducible assumption) | assumption)
       have q183 : x3_1 < (l0.length : Int) := of_decide_eq_true (by first | (with_reducible assumption) | assumption)
       obtain ⟨ad183, e183, hx183_0⟩ := Kd.at_string HR0.out x3_1 p183 q183
       cases e183
       replace p183 := eq_true p183
       replace q183 := eq_true q183
       go_wp2
       go_roundg k1
       case measure => have := HK1.out; omega
       case rel => exact ⟨(wrap64 (x3_1 + 1)), (by first | rfl | (simp; done) | (simp [*]; done)), H', ⟨by have := HK1.out; omega⟩, by repeat (first | exact Drawn0.refl _ | apply Drawn0.step)⟩
     ·rw [if_neg c4] at H
      exact absurd H (by simp)
    ·rw [if_neg c3] at H
     have c3b0 : decide (x3_1 < (l0.length : Int)) = false := decide_eq_false c3
     clear c3
     have H' := Aside0.mk H
     clear H
     go_wp2
     go_loopg [4] k1 (fun kq v4 w' => ∃ (x4_2 : Int), v4 = .int .i64 x4_2 ∧ Aside0 (salchowref49_lines.l1 kq l0 x4_2 = some r) ∧ Aside0 (kq ≤ k1) ∧ Drawn0 w w')
     case atStart => exact ⟨(0), (by first | rfl | (simp; done) | (simp [*]; done)), H', ⟨Nat.le_refl _⟩, by repeat (first | exact Drawn0.refl _ | apply Drawn0.step)⟩
     case round =>
      clear H'
      try clear p1
      try clear q1
      try clear hx1
      try clear c2
      try clear c2b0
      try clear c2b1
      try clear p2
      try clear c3
      try clear c3b0
      try clear c4
      try clear c4b0
      try clear c5
      try clear c5b0
      try clear c5b1
      try clear hx183_0
      try clear p183
      try clear p2
      try clear q183
      obtain ⟨x4_2, rfl, HA, HK2, ⟨m2, rfl⟩⟩ := hrel
      cases gk with
      | zero => exact absurd HA.out (by simp [salchowref49_lines.l1])
      | succ k2 =>
       have H := HA.out
       clear HA
       simp only [salchowref49_lines.l1] at H
       by_cases c6 : x4_2 < (l0.length : Int)
       ·rw [if_pos c6] at H
        have c6b0 : decide (x4_2 < (l0.length : Int)) = true := decide_eq_true c6
        clear c6
        have H' := Aside0.mk H
        clear H
        go_wp2
        go_loopg [5] k2 (fun kq v5 w' => ∃ (x5_3 : Int), v5 = .int .i64 x5_3 ∧ Aside0 (salchowref49_lines.l2 kq l0 x4_2 x5_3 = some r) ∧ Aside0 (kq ≤ k2) ∧ Drawn0 w w')
        case atStart => exact ⟨(0), (by first | rfl | (simp; done) | (simp [*]; done)), H', ⟨Nat.le_refl _⟩, by repeat (first | exact Drawn0.refl _ | apply Drawn0.step)⟩
        case round =>
         clear H'
         try clear p1
         try clear q1
         try clear hx1
         try clear c2
         try clear c2b0
         try clear c2b1
         try clear p2
         try clear c3
         try clear c3b0
         try clear c4
         try clear c4b0
         try clear c5
         try clear c5b0
         try clear c5b1
         try clear c6
         try clear c6b0
         try clear p6
         try clear hx183_0
         try clear p1
         try clear p183
         try clear p2
         try clear q1
         try clear q183
         obtain ⟨x5_3, rfl, HA, HK3, ⟨m3, rfl⟩⟩ := hrel
         cases gk with
         | zero => exact absurd HA.out (by simp [salchowref49_lines.l2])
         | succ k3 =>
          have H := HA.out
          clear HA
          simp only [salchowref49_lines.l2] at H
          by_cases c7 : 0 ≤ x4_2
          ·rw [if_pos c7] at H
           have c7b0 : decide (0 ≤ x4_2) = true := decide_eq_true c7
           clear c7
           by_cases c8 : x4_2 < (l0.length : Int)
           ·rw [if_pos c8] at H
            have c8b0 : decide (x4_2 < (l0.length : Int)) = true := decide_eq_true c8
            clear c8
            by_cases c9 : x5_3 < ((rdOf ByteArray.empty l0 x4_2).size : Int)
            ·rw [if_pos c9] at H
             have c9b0 : decide (x5_3 < ((rdOf ByteArray.empty l0 x4_2).size : Int)) = true := decide_eq_true c9
             clear c9
             by_cases c10 : 0 ≤ x5_3
             ·rw [if_pos c10] at H
              have c10b0 : decide (0 ≤ x5_3) = true := decide_eq_true c10
              clear c10
              by_cases c12 : (bt (rdOf ByteArray.empty l0 x4_2) x5_3) < 32
              ·rw [if_pos c12] at H
               have c12b0 : decide ((bt (rdOf ByteArray.empty l0 x4_2) x5_3) < 32) = true := decide_eq_true c12
               clear c12
               obtain rfl := Option.some.inj H
               have p184 : 0 ≤ (x4_2 : Int) := of_decide_eq_true (by first | (with_reducible assumption) | assumption)
               have q184 : x4_2 < (l0.length : Int) := of_decide_eq_true (by first | (with_reducible assumption) | assumption)
               obtain ⟨ad184, e184, hx184_0⟩ := Kd.at_string HR0.out x4_2 p184 q184
               cases e184
               replace p184 := eq_true p184
               replace q184 := eq_true q184
               have p185 : 0 ≤ (x4_2 : Int) := of_decide_eq_true (by first | (with_reducible assumption) | assumption)
               have q185 : x4_2 < (l0.length : Int) := of_decide_eq_true (by first | (with_reducible assumption) | assumption)
               obtain ⟨ad185, e185, hx185_0⟩ := Kd.at_string HR0.out x4_2 p185 q185
               obtain rfl : ad184 = ad185 := (by injection e185)
               replace p185 := eq_true p185
               replace q185 := eq_true q185
               have p11 : 0 ≤ (x5_3 : Int) := of_decide_eq_true (by first | (with_reducible assumption) | assumption)
               have q11 : x5_3 < ((rdOf ByteArray.empty l0 x4_2).size : Int) := of_decide_eq_true (by first | (with_reducible assumption) | assumption)
               have hx11 := bt_at (rdOf ByteArray.empty l0 x4_2) x5_3
               replace p11 := eq_true p11
               replace q11 := eq_true q11
               go_wp2
               go_ret
               exact ⟨by first | rfl | (simp; done) | (simp [*]; done), by repeat (first | exact Drawn0.refl _ | apply Drawn0.step)⟩
              ·rw [if_neg c12] at H
               have c12b0 : decide ((bt (rdOf ByteArray.empty l0 x4_2) x5_3) < 32) = false := decide_eq_false c12
               clear c12
               by_cases c14 : (bt (rdOf ByteArray.empty l0 x4_2) x5_3) > 126
               ·rw [if_pos c14] at H
                have c14b0 : decide (126 < (bt (rdOf ByteArray.empty l0 x4_2) x5_3)) = true := decide_eq_true c14
                clear c14
                obtain rfl := Option.some.inj H
                have p184 : 0 ≤ (x4_2 : Int) := of_decide_eq_true (by first | (with_reducible assumption) | assumption)
                have q184 : x4_2 < (l0.length : Int) := of_decide_eq_true (by first | (with_reducible assumption) | assumption)
                obtain ⟨ad184, e184, hx184_0⟩ := Kd.at_string HR0.out x4_2 p184 q184
                cases e184
                replace p184 := eq_true p184
                replace q184 := eq_true q184
                have p185 : 0 ≤ (x4_2 : Int) := of_decide_eq_true (by first | (with_reducible assumption) | assumption)
                have q185 : x4_2 < (l0.length : Int) := of_decide_eq_true (by first | (with_reducible assumption) | assumption)
                obtain ⟨ad185, e185, hx185_0⟩ := Kd.at_string HR0.out x4_2 p185 q185
                obtain rfl : ad184 = ad185 := (by injection e185)
                replace p185 := eq_true p185
                replace q185 := eq_true q185
                have p11 : 0 ≤ (x5_3 : Int) := of_decide_eq_true (by first | (with_reducible assumption) | assumption)
                have q11 : x5_3 < ((rdOf ByteArray.empty l0 x4_2).size : Int) := of_decide_eq_true (by first | (with_reducible assumption) | assumption)
                have hx11 := bt_at (rdOf ByteArray.empty l0 x4_2) x5_3
                replace p11 := eq_true p11
                replace q11 := eq_true q11
                have p186 : 0 ≤ (x4_2 : Int) := of_decide_eq_true (by first | (with_reducible assumption) | assumption)
                have q186 : x4_2 < (l0.length : Int) := of_decide_eq_true (by first | (with_reducible assumption) | assumption)
                obtain ⟨ad186, e186, hx186_0⟩ := Kd.at_string HR0.out x4_2 p186 q186
                obtain rfl : ad184 = ad186 := (by injection e186)
                replace p186 := eq_true p186
                replace q186 := eq_true q186
                have p13 : 0 ≤ (x5_3 : Int) := of_decide_eq_true (by first | (with_reducible assumption) | assumption)
                have q13 : x5_3 < ((rdOf ByteArray.empty l0 x4_2).size : Int) := of_decide_eq_true (by first | (with_reducible assumption) | assumption)
                have hx13 := bt_at (rdOf ByteArray.empty l0 x4_2) x5_3
                replace p13 := eq_true p13
                replace q13 := eq_true q13
                go_wp2
                go_ret
                exact ⟨by first | rfl | (simp; done) | (simp [*]; done), by repeat (first | exact Drawn0.refl _ | apply Drawn0.step)⟩
               ·rw [if_neg c14] at H
                have c14b0 : decide (126 < (bt (rdOf ByteArray.empty l0 x4_2) x5_3)) = false := decide_eq_false c14
                clear c14
                have H' := Aside0.mk H
                clear H
                have p184 : 0 ≤ (x4_2 : Int) := of_decide_eq_true (by first | (with_reducible assumption) | assumption)
                have q184 : x4_2 < (l0.length : Int) := of_decide_eq_true (by first | (with_reducible assumption) | assumption)
                obtain ⟨ad184, e184, hx184_0⟩ := Kd.at_string HR0.out x4_2 p184 q184
                cases e184
                replace p184 := eq_true p184
                replace q184 := eq_true q184
                have p185 : 0 ≤ (x4_2 : Int) := of_decide_eq_true (by first | (with_reducible assumption) | assumption)
                have q185 : x4_2 < (l0.length : Int) := of_decide_eq_true (by first | (with_reducible assumption) | assumption)
                obtain ⟨ad185, e185, hx185_0⟩ := Kd.at_string HR0.out x4_2 p185 q185
                obtain rfl : ad184 = ad185 := (by injection e185)
                replace p185 := eq_true p185
                replace q185 := eq_true q185
                have p11 : 0 ≤ (x5_3 : Int) := of_decide_eq_true (by first | (with_reducible assumption) | assumption)
                have q11 : x5_3 < ((rdOf ByteArray.empty l0 x4_2).size : Int) := of_decide_eq_true (by first | (with_reducible assumption) | assumption)
                have hx11 := bt_at (rdOf ByteArray.empty l0 x4_2) x5_3
                replace p11 := eq_true p11
                replace q11 := eq_true q11
                have p186 : 0 ≤ (x4_2 : Int) := of_decide_eq_true (by first | (with_reducible assumption) | assumption)
                have q186 : x4_2 < (l0.length : Int) := of_decide_eq_true (by first | (with_reducible assumption) | assumption)
                obtain ⟨ad186, e186, hx186_0⟩ := Kd.at_string HR0.out x4_2 p186 q186
                obtain rfl : ad184 = ad186 := (by injection e186)
                replace p186 := eq_true p186
                replace q186 := eq_true q186
                have p13 : 0 ≤ (x5_3 : Int) := of_decide_eq_true (by first | (with_reducible assumption) | assumption)
                have q13 : x5_3 < ((rdOf ByteArray.empty l0 x4_2).size : Int) := of_decide_eq_true (by first | (with_reducible assumption) | assumption)
                have hx13 := bt_at (rdOf ByteArray.empty l0 x4_2) x5_3
                replace p13 := eq_true p13
                replace q13 := eq_true q13
                go_wp2
                go_roundg k3
                case measure => have := HK1.out; have := HK2.out; have := HK3.out; omega
                case rel => exact ⟨(wrap64 (x5_3 + 1)), (by first | rfl | (simp; done) | (simp [*]; done)), H', ⟨by have := HK1.out; have := HK2.out; have := HK3.out; omega⟩, by repeat (first | exact Drawn0.refl _ | apply Drawn0.step)⟩
             ·rw [if_neg c10] at H
              exact absurd H (by simp)
            ·rw [if_neg c9] at H
             have c9b0 : decide (x5_3 < ((rdOf ByteArray.empty l0 x4_2).size : Int)) = false := decide_eq_false c9
             clear c9
             have H' := Aside0.mk H
             clear H
             have p184 : 0 ≤ (x4_2 : Int) := of_decide_eq_true (by first | (with_reducible assumption) | assumption)
             have q184 : x4_2 < (l0.length : Int) := of_decide_eq_true (by first | (with_reducible assumption) | assumption)
             obtain ⟨ad184, e184, hx184_0⟩ := Kd.at_string HR0.out x4_2 p184 q184
             cases e184
             replace p184 := eq_true p184
             replace q184 := eq_true q184
             go_wp2
             go_roundg k3
             case measure => have := HK1.out; have := HK2.out; have := HK3.out; omega
             case rel => exact ⟨(wrap64 (x4_2 + 1)), (by first | rfl | (simp; done) | (simp [*]; done)), H', ⟨by have := HK1.out; have := HK2.out; have := HK3.out; omega⟩, by repeat (first | exact Drawn0.refl _ | apply Drawn0.step)⟩
           ·rw [if_neg c8] at H
            exact absurd H (by simp)
          ·rw [if_neg c7] at H
           exact absurd H (by simp)
       ·rw [if_neg c6] at H
        have c6b0 : decide (x4_2 < (l0.length : Int)) = false := decide_eq_false c6
        clear c6
        obtain rfl := Option.some.inj H
        go_wp2
        go_ret
        exact ⟨by first | rfl | (simp; done) | (simp [*]; done), by repeat (first | exact Drawn0.refl _ | apply Drawn0.step)⟩
def salchowref49_Lines.f (k : Nat) (l0 : List ByteArray) : Option (Bool) := (salchowref49_lines.f k l0).bind fun t187 => (some (t187 == 0))
set_option maxHeartbeats 8000000 in
set_option maxRecDepth 100000 in
theorem salchowref49_Lines.calls (k : Nat) (A0 : Option Addr) (c0 : Nat) (l0 : List ByteArray) (r : Bool) (w : World) (hr0 : Kd.C Kd.string w A0 l0.length l0) (hc0 : l0.length ≤ c0) (h : salchowref49_Lines.f k l0 = some r) :
  Calls Tryd.prog 23 #[.slice A0 l0.length c0] w fun e w' => e = .returned (.bool r) ∧ Drawn0 w w' := by
 have HR0 := Aside0.mk hr0
 have HC0 := Aside0.mk hc0
 clear hr0 hc0
 have H : ((salchowref49_lines.f k l0).bind fun t187 => (some (t187 == 0))) = some r := h
 clear h
 replace H := Option.bind_eq_some_iff.mp H
 obtain ⟨t187, A20, H⟩ := H
 replace H : (some (t187 == 0)) = some r := H
 have A2 := Aside0.mk A20
 clear A20
 obtain rfl := Option.some.inj H
 go_enter Tryd.func23, Tryd.ntmps23
 go_wp2_with (first | ((with_reducible refine gate_callee (f := 48) rfl ?_); refine goesL_ (some 4) rfl rfl Tryd.func48 (by kernel_rfl) rfl #[.slice A0 l0.length c0] rfl (by (try simp only [List.map_toArray, List.map_cons, List.map_nil]); first | done | rfl | (simp only [List.length_drop, List.length_take]; rfl)) ?_; (with_reducible refine (salchowref49_lines.calls k _ _ l0 t187 _ ?side1 ?side2 A2.out).mono ?_); (case side1 => repeat (first | exact HR0.out | (with_reducible refine Kd.C_alloc ?_ _) | (with_reducible refine Kd.C_drewN ?_ _) | (with_reducible refine Kd.C_drew ?_))); (case side2 => exact HC0.out); rintro e w' ⟨rfl, ⟨nd, rfl⟩⟩; refine ⟨_, rfl, ?_⟩))
 go_ret
 exact ⟨by first | rfl | (simp; done) | (simp [*]; done), by repeat (first | exact Drawn0.refl _ | apply Drawn0.step)⟩
end Go.Proofs.YtfpopmojlmpopaaDoor.G

end
section
namespace Go.Proofs.YtfpopmojlmpopaaDoor.G
open Go.RowKit Go.Proofs.YtfpopmojlmpopaaDoorW.PrintWords Go.Proofs.YtfpopmojlmpopaaDoorW.PrintLast Go.Proofs.YtfpopmojlmpopaaDoorW.PrintMore
attribute [local go_sem] max2_int min2_int max_two min_two max_three min_three max_four min_four
set_option linter.unusedVariables false
set_option linter.unusedSimpArgs false
def salchowref49_Apply.T11 : Bool × List (List Nat × List Nat) := (true, [([], []), ([], []), ([], []), ([], []), ([3], [3]), ([1, 2, 4], [1, 2, 4]), ([0, 5], [0, 5]), ([], []), ([7], [7]), ([6, 8, 6], [6, 8]), ([9, 9, 0, 1, 2, 3, 4, 5, 6, 7, 8, 9], [0, 9])])
def salchowref49_Apply.B11 : List Nat := [0, 0, 0, 0, 8, 30, 63, 0, 128, 511, 1023]
theorem salchowref49_Apply.tab11 : rtab .any (opsOf Tryd.f18 11) = salchowref49_Apply.T11 := by kernel_rfl
theorem salchowref49_Apply.bits11 : waitsOk salchowref49_Apply.T11.2 salchowref49_Apply.B11 = true := by kernel_rfl
def salchowref49_SameLines.l0 : Nat → List ByteArray → List ByteArray → Int → Option (Bool)
 | 0, _, _, _ => none
 | k + 1, x0, x1, x5 => if x5 < (x0.length : Int) then (if 0 ≤ x5 then (if x5 < (x1.length : Int) then (if (rdOf ByteArray.empty x0 x5).toList = (rdOf ByteArray.empty x1 x5).toList then (salchowref49_SameLines.l0 k x0 x1 (wrap64 (x5 + 1))) else (some false)) else (none)) else (none)) else (some true)
def salchowref49_SameLines.f (k : Nat) (l0 : List ByteArray) (l1 : List ByteArray) : Option (Bool) := if (l0.length : Int) = (l1.length : Int) then (salchowref49_SameLines.l0 k l0 l1 0) else (some false)
set_option maxHeartbeats 8000000 in
set_option maxRecDepth 100000 in
theorem salchowref49_SameLines.calls (k : Nat) (A0 : Option Addr) (c0 : Nat) (l0 : List ByteArray) (A1 : Option Addr) (c1 : Nat) (l1 : List ByteArray) (r : Bool) (w : World) (hr0 : Kd.C Kd.string w A0 l0.length l0) (hc0 : l0.length ≤ c0) (hr1 : Kd.C Kd.string w A1 l1.length l1) (hc1 : l1.length ≤ c1) (h : salchowref49_SameLines.f k l0 l1 = some r) :
  Calls Tryd.prog 19 #[.slice A0 l0.length c0, .slice A1 l1.length c1] w fun e w' => e = .returned (.bool r) ∧ Drawn0 w w' := by
 have HR0 := Aside0.mk hr0
 have HC0 := Aside0.mk hc0
 clear hr0 hc0
 have HR1 := Aside0.mk hr1
 have HC1 := Aside0.mk hc1
 clear hr1 hc1
 have H : (if (l0.length : Int) = (l1.length : Int) then (salchowref49_SameLines.l0 k l0 l1 0) else (some false)) = some r := h
 clear h
 by_cases c3 : (l0.length : Int) = (l1.length : Int)
 ·rw [if_pos c3] at H
  have c3b0 : ((l0.length : Int) == (l1.length : Int)) = true := beq_iff_eq.mpr c3
  have c3b1 : ((l0.length : Int) != (l1.length : Int)) = false := bne_eq_false_iff_eq.mpr c3
  have c3b2 : (l0.length == l1.length) = true := by first | simpa using c3 | (simp at c3 ⊢; omega)
  clear c3
  have H' := Aside0.mk H
  clear H
  go_enter Tryd.func19, Tryd.ntmps19
  go_wp2
  repeat (go_quiet (fail); try go_wp2)
  go_loopg [5] k (fun kq v5 w' => ∃ (x5_1 : Int), v5 = .int .i64 x5_1 ∧ Aside0 (salchowref49_SameLines.l0 kq l0 l1 x5_1 = some r) ∧ Aside0 (kq ≤ k) ∧ Drawn0 w w')
  case atStart => exact ⟨(0), (by first | rfl | (simp; done) | (simp [*]; done)), H', ⟨Nat.le_refl _⟩, by repeat (first | exact Drawn0.refl _ | apply Drawn0.step)⟩
  case round =>
   clear H'
   try clear c1
   try clear p2
   try clear c3
   try clear c3b0
   try clear c3b1
   try clear c3b2
   obtain ⟨x5_1, rfl, HA, HK1, ⟨m1, rfl⟩⟩ := hrel
   cases gk with
   | zero => exact absurd HA.out (by simp [salchowref49_SameLines.l0])
   | succ k1 =>
    have H := HA.out
    clear HA
    simp only [salchowref49_SameLines.l0] at H
    by_cases c4 : x5_1 < (l0.length : Int)
    ·rw [if_pos c4] at H
     have c4b0 : decide (x5_1 < (l0.length : Int)) = true := decide_eq_true c4
     clear c4
     by_cases c5 : 0 ≤ x5_1
     ·rw [if_pos c5] at H
      have c5b0 : decide (0 ≤ x5_1) = true := decide_eq_true c5
      clear c5
      by_cases c6 : x5_1 < (l1.length : Int)
      ·rw [if_pos c6] at H
       have c6b0 : decide (x5_1 < (l1.length : Int)) = true := decide_eq_true c6
       clear c6
       by_cases c7 : (rdOf ByteArray.empty l0 x5_1).toList = (rdOf ByteArray.empty l1 x5_1).toList
       ·rw [if_pos c7] at H
        have c7b0 : ((rdOf ByteArray.empty l0 x5_1).toList == (rdOf ByteArray.empty l1 x5_1).toList) = true := beq_iff_eq.mpr c7
        have c7b1 : ((rdOf ByteArray.empty l0 x5_1).toList != (rdOf ByteArray.empty l1 x5_1).toList) = false := bne_eq_false_iff_eq.mpr c7
        clear c7
        have H' := Aside0.mk H
        clear H
        have p211 : 0 ≤ (x5_1 : Int) := of_decide_eq_true (by first | (with_reducible assumption) | assumption)
        have q211 : x5_1 < (l0.length : Int) := of_decide_eq_true (by first | (with_reducible assumption) | assumption)
        obtain ⟨ad211, e211, hx211_0⟩ := Kd.at_string HR0.out x5_1 p211 q211
        cases e211
        replace p211 := eq_true p211
        replace q211 := eq_true q211
        have p212 : 0 ≤ (x5_1 : Int) := of_decide_eq_true (by first | (with_reducible assumption) | assumption)
        have q212 : x5_1 < (l1.length : Int) := of_decide_eq_true (by first | (with_reducible assumption) | assumption)
        obtain ⟨ad212, e212, hx212_0⟩ := Kd.at_string HR1.out x5_1 p212 q212
        cases e212
        replace p212 := eq_true p212
        replace q212 := eq_true q212
        go_wp2
        repeat (go_quiet (fail); try go_wp2)
        go_roundg k1
        case measure => have := HK1.out; omega
        case rel => exact ⟨(wrap64 (x5_1 + 1)), (by first | rfl | (simp; done) | (simp [*]; done)), H', ⟨by have := HK1.out; omega⟩, by repeat (first | exact Drawn0.refl _ | apply Drawn0.step)⟩
       ·rw [if_neg c7] at H
        have c7b0 : ((rdOf ByteArray.empty l0 x5_1).toList == (rdOf ByteArray.empty l1 x5_1).toList) = false := beq_eq_false_iff_ne.mpr c7
        have c7b1 : ((rdOf ByteArray.empty l0 x5_1).toList != (rdOf ByteArray.empty l1 x5_1).toList) = true := bne_iff_ne.mpr c7
        obtain rfl := Option.some.inj H
        have p211 : 0 ≤ (x5_1 : Int) := of_decide_eq_true (by first | (with_reducible assumption) | assumption)
        have q211 : x5_1 < (l0.length : Int) := of_decide_eq_true (by first | (with_reducible assumption) | assumption)
        obtain ⟨ad211, e211, hx211_0⟩ := Kd.at_string HR0.out x5_1 p211 q211
        cases e211
        replace p211 := eq_true p211
        replace q211 := eq_true q211
        have p212 : 0 ≤ (x5_1 : Int) := of_decide_eq_true (by first | (with_reducible assumption) | assumption)
        have q212 : x5_1 < (l1.length : Int) := of_decide_eq_true (by first | (with_reducible assumption) | assumption)
        obtain ⟨ad212, e212, hx212_0⟩ := Kd.at_string HR1.out x5_1 p212 q212
        cases e212
        replace p212 := eq_true p212
        replace q212 := eq_true q212
        go_wp2
        repeat (go_quiet (fail); try go_wp2)
        go_ret
        exact ⟨by first | rfl | (simp; done) | (simp [*]; done), by repeat (first | exact Drawn0.refl _ | apply Drawn0.step)⟩
      ·rw [if_neg c6] at H
       exact absurd H (by simp)
     ·rw [if_neg c5] at H
      exact absurd H (by simp)
    ·rw [if_neg c4] at H
     have c4b0 : decide (x5_1 < (l0.length : Int)) = false := decide_eq_false c4
     clear c4
     obtain rfl := Option.some.inj H
     go_wp2
     repeat (go_quiet (fail); try go_wp2)
     go_ret
     exact ⟨by first | rfl | (simp; done) | (simp [*]; done), by repeat (first | exact Drawn0.refl _ | apply Drawn0.step)⟩
 ·rw [if_neg c3] at H
  have c3b0 : ((l0.length : Int) == (l1.length : Int)) = false := beq_eq_false_iff_ne.mpr c3
  have c3b1 : ((l0.length : Int) != (l1.length : Int)) = true := bne_iff_ne.mpr c3
  have c3b2 : (l0.length == l1.length) = false := by first | simpa using c3 | (simp at c3 ⊢; omega)
  obtain rfl := Option.some.inj H
  go_enter Tryd.func19, Tryd.ntmps19
  go_wp2
  repeat (go_quiet (fail); try go_wp2)
  go_ret
  exact ⟨by first | rfl | (simp; done) | (simp [*]; done), by repeat (first | exact Drawn0.refl _ | apply Drawn0.step)⟩
end Go.Proofs.YtfpopmojlmpopaaDoor.G

end
