/-
  Part 7 of the proof: words about memory and rows, functions of the program as Lean functions with the contracts that its code comes to just their answers, and plain lemmas; no conditions of its own.
-/
import Derived.Lib.SlBytesConst
import Derived.Test.YtfpopmojlmpopaaDoorBEq1
import Derived.Test.YtfpopmojlmpopaaDoorBEq2
import Derived.Test.YtfpopmojlmpopaaDoorBEq3
import Derived.Test.YtfpopmojlmpopaaDoorBEq5
import Derived.Test.YtfpopmojlmpopaaDoorBEq6
section
namespace Go.Proofs.YtfpopmojlmpopaaDoor.H
open Go.RowKit Go.Proofs.YtfpopmojlmpopaaDoorW.PrintWords Go.Proofs.YtfpopmojlmpopaaDoorW.PrintLast Go.Proofs.YtfpopmojlmpopaaDoorW.PrintMore Go.Proofs.YtfpopmojlmpopaaDoor.G
set_option linter.unusedVariables false
set_option linter.unusedSimpArgs false
def shapeOk (T : List (List Int)) (n m : Nat) : Bool := decide (T.length = n + 1) && T.all (fun r => decide (r.length = m + 1))
def tabAt (T : List (List Int)) (i k : Nat) : Int := rd (T.getD i []) k
def lastE (out : List S52) : S52 := rd_T52 out ((out.length : Int) - 1)
def gapE (out : List S52) (gap : Bool) (i : Nat) : List S52 := if gap = true then out else out ++ [⟨(i : Int), 0, []⟩]
def stepDel (out : List S52) : List S52 := bumpE out out.length (wrap64 ((lastE out).f1 + 1))
def stepAdd (out : List S52) (s : ByteArray) : List S52 := addE out out.length ((lastE out).f2 ++ [s])
def dfl (T : List (List Int)) (a b : List ByteArray) : Nat → List S52 → Bool → Nat → Nat → Option (List S52)
 | 0, _, _, _, _ => none
 | f + 1, out, gap, i, k =>
  if i < a.length ∨ k < b.length then
   if i < a.length ∧ k < b.length ∧ rdOf ByteArray.empty a i = rdOf ByteArray.empty b k then dfl T a b f out false (i + 1) (k + 1)
   else if 0 < (gapE out gap i).length ∧ out.length < 1000000000000 ∧ (lastE (gapE out gap i)).f2.length < 8796093022208 then
    if i < a.length ∧ (k = b.length ∨ tabAt T (i + 1) k ≤ tabAt T i (k + 1)) then dfl T a b f (stepDel (gapE out gap i)) true (i + 1) k
    else dfl T a b f (stepAdd (gapE out gap i) (rdOf ByteArray.empty b k)) true i (k + 1)
   else none
  else some out
def frame_Diff.f (K : Nat) (l0 l1 : List ByteArray) : Option (List S52 × Int) :=
 (frame_lineError.f K l0).bind fun e0 => if e0 = 0 then (frame_lineError.f K l1).bind fun e1 => if e1 = 0 then (frame_distances.f K l0 l1).bind fun T =>
  if shapeOk T l0.length l1.length = true then (dfl T l0 l1 K [] false 0 0).bind fun o => some (o, 0) else none
 else some ([], 1) else some ([], 1)
theorem w64 (n : Int) (h : -9223372036854775808 ≤ n ∧ n ≤ 9223372036854775807) : wrap64 n = n := by unfold wrap64; omega
theorem dif_gap {α : Type} {P : Prop} [Decidable P] {x : Option α} {o : α} (h : (if P then x else none) = some o) : P ∧ x = some o := by
 by_cases hp : P
 ·rw [if_pos hp] at h; exact ⟨hp, h⟩
 ·rw [if_neg hp] at h; cases h
theorem str_ne {x y : ByteArray} (h : ¬ x = y) : (x.toList == y.toList) = false := by
 rw [ByteArray.toList_eq, ByteArray.toList_eq, beq_eq_false_iff_ne]
 intro hc
 apply h
 obtain ⟨⟨x⟩⟩ := x
 obtain ⟨⟨y⟩⟩ := y
 simp only at hc
 rw [hc]
theorem shape_at {T : List (List Int)} {n m : Nat} (h : shapeOk T n m = true) : T.length = n + 1 ∧ ∀ i : Nat, i < n + 1 → (rd_L6 T (i : Int)).length = m + 1 := by
 unfold shapeOk at h
 rw [Bool.and_eq_true, decide_eq_true_eq, List.all_eq_true] at h
 refine ⟨h.1, fun i hi => ?_⟩
 have := h.2 (T[i]'(by omega)) (List.getElem_mem _)
 simpa [rd_L6, List.getD, show i < T.length from by omega] using this
theorem dfl_mono (T : List (List Int)) (a b : List ByteArray) : ∀ (k : Nat) (out : List S52) (gap : Bool) (i j : Nat), LeO (dfl T a b k out gap i j) (dfl T a b (k + 1) out gap i j)
 | 0, _, _, _, _ => fun r h => by simp [dfl] at h
 | k + 1, out, gap, i, j => fun r h => by
  rw [dfl] at h
  rw [dfl]
  by_cases c1 : i < a.length ∨ j < b.length
  ·rw [if_pos c1] at h ⊢
   by_cases c2 : i < a.length ∧ j < b.length ∧ rdOf ByteArray.empty a i = rdOf ByteArray.empty b j
   ·rw [if_pos c2] at h ⊢
    exact dfl_mono T a b k _ _ _ _ r h
   ·rw [if_neg c2] at h ⊢
    by_cases c3 : 0 < (gapE out gap i).length ∧ out.length < 1000000000000 ∧ (lastE (gapE out gap i)).f2.length < 8796093022208
    ·rw [if_pos c3] at h ⊢
     by_cases c4 : i < a.length ∧ (j = b.length ∨ tabAt T (i + 1) j ≤ tabAt T i (j + 1))
     ·rw [if_pos c4] at h ⊢
      exact dfl_mono T a b k _ _ _ _ r h
     ·rw [if_neg c4] at h ⊢
      exact dfl_mono T a b k _ _ _ _ r h
    ·rw [if_neg c3] at h
     cases h
  ·rw [if_neg c1] at h ⊢
   exact h
theorem LeO.bind2 {α β : Type} {x y : Option α} {f g : α → Option β} (h : LeO x y) (hf : ∀ a, LeO (f a) (g a)) : LeO (x.bind f) (y.bind g) := fun r hr => by
 obtain ⟨a, ha, hr⟩ := Option.bind_eq_some_iff.1 hr
 exact Option.bind_eq_some_iff.2 ⟨a, h a ha, hf a r hr⟩
theorem frame_Diff.mono : ∀ a0 a1 k, LeO (frame_Diff.f k a0 a1) (frame_Diff.f (k + 1) a0 a1) := fun a0 a1 k => by
 unfold frame_Diff.f
 refine LeO.bind2 (frame_lineError.mono a0 k) fun e0 => ?_
 by_cases h0 : e0 = 0
 ·rw [if_pos h0, if_pos h0]
  refine LeO.bind2 (frame_lineError.mono a1 k) fun e1 => ?_
  by_cases h1 : e1 = 0
  ·rw [if_pos h1, if_pos h1]
   refine LeO.bind2 (frame_distances.mono a0 a1 k) fun T => ?_
   by_cases h2 : shapeOk T a0.length a1.length = true
   ·rw [if_pos h2, if_pos h2]
    exact LeO.bind2 (dfl_mono T a0 a1 k _ _ _ _) fun o => fun r h => h
   ·rw [if_neg h2]
    intro r h
    cases h
  ·rw [if_neg h1, if_neg h1]
   exact fun r h => h
 ·rw [if_neg h0, if_neg h0]
  exact fun r h => h
set_option maxHeartbeats 8000000 in
set_option maxRecDepth 100000 in
theorem frame_Diff.calls (K : Nat) (A0 : Option Addr) (c0 : Nat) (l0 : List ByteArray) (A1 : Option Addr) (c1 : Nat) (l1 : List ByteArray) (r1 : List S52) (r2 : Int) (w : World) (hr0 : Kd.C Kd.string w A0 l0.length l0) (hc0 : l0.length ≤ c0) (hr1 : Kd.C Kd.string w A1 l1.length l1) (hc1 : l1.length ≤ c1) (h : frame_Diff.f K l0 l1 = some (r1, r2)) :
  Calls Tryd.prog 20 #[.slice A0 l0.length c0, .slice A1 l1.length c1] w fun e w' => ∃ v, e = .returned (.tuple #[v, .int .i64 r2]) ∧ Kd.S k52 52 w' w.heap.size (fun _ => True) v r1 ∧ Below w.heap.size w w' := by
 have HR0 := Lib.hid hr0
 have HR1 := Lib.hid hr1
 have hm0 := Kd.C_max hr0
 have hm1 := Kd.C_max hr1
 clear hr0 hr1
 unfold frame_Diff.f at h
 replace h := Option.bind_eq_some_iff.mp h
 obtain ⟨e0, he0, h⟩ := h
 have E0 := Lib.hid he0
 clear he0
 go_enter Tryd.func20, Tryd.ntmps20
 by_cases hz0 : e0 = 0
 ·rw [if_pos hz0] at h
  replace h := Option.bind_eq_some_iff.mp h
  obtain ⟨e1, he1, h⟩ := h
  have E1 := Lib.hid he1
  clear he1
  have a0 : (e0 == 0) = true := beq_iff_eq.mpr hz0
  have a1 : (e0 != 0) = false := bne_eq_false_iff_eq.mpr hz0
  clear hz0
  go_wp2_with fail
  refine (frame_lineError.calls K A0 c0 l0 e0 w HR0.out hc0 E0.out).mono ?_
  rintro e w1 ⟨rfl, hd1⟩
  have HB1 := Lib.hid hd1.below
  clear hd1
  go_wp2_with fail
  refine (frame_lineError.calls K A1 c1 l1 e1 w1 (Kd.C_below HR1.out HB1.out) hc1 E1.out).mono ?_
  rintro e w2 ⟨rfl, hd2⟩
  have HB2 : Hid (Below w.heap.size w w2) := Lib.hid (HB1.out.trans (hd2.below.mono HB1.out.size))
  clear hd2 HB1
  by_cases hz1 : e1 = 0
  ·rw [if_pos hz1] at h
   have b0 : (e1 == 0) = true := beq_iff_eq.mpr hz1
   have b1 : (e1 != 0) = false := bne_eq_false_iff_eq.mpr hz1
   clear hz1
   replace h := Option.bind_eq_some_iff.mp h
   obtain ⟨T, hT, h⟩ := h
   have ET := Lib.hid hT
   clear hT
   by_cases hsh : shapeOk T l0.length l1.length = true
   ·rw [if_pos hsh] at h
    have HSH := Lib.hid (shape_at hsh)
    clear hsh
    replace h := Option.bind_eq_some_iff.mp h
    obtain ⟨o, ho, h⟩ := h
    simp only [Option.some.injEq, Prod.mk.injEq] at h
    obtain ⟨rfl, rfl⟩ := h
    have HO := Lib.hid ho
    clear ho
    go_wp2_with fail
    refine (frame_distances.calls K A0 c0 l0 A1 c1 l1 T w2 (Kd.C_below HR0.out HB2.out) hc0 (Kd.C_below HR1.out HB2.out) hc1 ET.out).mono ?_
    rintro e w3 ⟨vT, rfl, hS, hb⟩
    have HB3 : Hid (Below w.heap.size w w3) := Lib.hid (HB2.out.trans (hb.mono HB2.out.size))
    have HT3 := Lib.hid (Kd.S_lower hS HB2.out.size)
    obtain ⟨AT, cT, rfl, hcT, -⟩ := Kd.S_reads hS
    clear hS hb HB2
    go_wp2_with fail
    go_loopg [7, 8, 9, 10] K (fun kq v7 v8 v9 v10 w' => ∃ (out : List S52) (gap : Bool) (i k : Nat), v8 = .bool gap ∧ v9 = .int .i64 i ∧ v10 = .int .i64 k ∧ i ≤ l0.length ∧ k ≤ l1.length ∧ Hid (dfl T l0 l1 kq out gap i k = some o) ∧ Hid (kq ≤ K) ∧ Hid (SE w' w.heap.size (fun _ => True) v7 out) ∧ Hid (Kd.S (Kd.slice 24 (Kd.int .u16)) 77 w' w.heap.size (fun _ => True) (.slice AT T.length cT) T) ∧ Hid (Below w.heap.size w w'))
    case atStart => exact ⟨[], false, 0, 0, rfl, rfl, rfl, by omega, by omega, Lib.hid HO.out, Lib.hid (Nat.le_refl _), Lib.hid (Kd.S_nil _ _ _ _ _), Lib.hid HT3.out, Lib.hid HB3.out⟩
    case round =>
     clear HO HT3 HB3
     obtain ⟨out, gap, i, k, rfl, rfl, rfl, hi, hk, HA, HK1, HS, HT, HB⟩ := hrel
     cases gk with
     | zero => exact absurd HA.out (by simp [dfl])
     | succ k1 =>
      have hd := HA.out
      clear HA
      rw [dfl] at hd
      by_cases hi2 : i < l0.length
      ·have i0 := decide_eq_true (show (i : Int) < (l0.length : Int) from by omega)
       have i1 := eq_true (show (i : Int) < (l0.length : Int) from by omega)
       have i2 := eq_true (show (0 : Int) ≤ (i : Int) from by omega)
       obtain ⟨ada, ea, ha⟩ := Kd.at_string (Kd.C_below HR0.out HB.out) (i : Int) (by omega) (by omega)
       rw [Int.toNat_natCast] at ha
       subst ea
       by_cases hk2 : k < l1.length
       ·have k0 := decide_eq_true (show (k : Int) < (l1.length : Int) from by omega)
        have k01 := eq_true (show (k : Int) < (l1.length : Int) from by omega)
        have k02 := eq_true (show (0 : Int) ≤ (k : Int) from by omega)
        have k3 : ((k : Int) == (l1.length : Int)) = false := beq_eq_false_iff_ne.mpr (by omega)
        obtain ⟨adb, eb, hbb⟩ := Kd.at_string (Kd.C_below HR1.out HB.out) (k : Int) (by omega) (by omega)
        rw [Int.toNat_natCast] at hbb
        subst eb
        rw [if_pos (Or.inl hi2)] at hd
        by_cases heq : rdOf ByteArray.empty l0 (i : Int) = rdOf ByteArray.empty l1 (k : Int)
        ·rw [if_pos ⟨hi2, hk2, heq⟩] at hd
         have q0 : ((rdOf ByteArray.empty l0 (i : Int)).toList == (rdOf ByteArray.empty l1 (k : Int)).toList) = true := by rw [heq]; exact beq_self_eq_true _
         have HD := Lib.hid hd
         clear hd heq
         go_wp2_with fail
         go_quiet (fail)
         go_wp2_with fail
         go_roundg k1
         case measure => have := HK1.out; omega
         case rel => exact ⟨out, false, i + 1, k + 1, by go_num, by go_num, by go_num, by omega, by omega, Lib.hid HD.out, Lib.hid (by have := HK1.out; omega), Lib.hid (Kd.S_drewN HS.out _), Lib.hid (Kd.S_drewN HT.out _), Lib.hid (pw_below_drewN HB.out _)⟩
        ·rw [if_neg (fun h => heq h.2.2)] at hd
         have q0 : ((rdOf ByteArray.empty l0 (i : Int)).toList == (rdOf ByteArray.empty l1 (k : Int)).toList) = false := str_ne heq
         clear heq
         cases gap
         ·skip
          have HC := Lib.hid hd
          clear hd
          obtain ⟨⟨hn1, hbn, hf2⟩, hd⟩ := dif_gap HC.out
          clear HC
          simp only [gapE, Bool.false_eq_true, if_false] at hn1 hf2 hd
          obtain ⟨out1, hout1⟩ : ∃ out1, out ++ [(⟨(i : Int), 0, []⟩ : S52)] = out1 := ⟨_, rfl⟩
          rw [hout1] at hn1 hf2 hd
          have HN := Lib.hid hn1
          have HBND := Lib.hid hbn
          have HF2 := Lib.hid hf2
          have HD := Lib.hid hd
          clear hf2 hd hbn
          obtain ⟨jn, hjn⟩ : ∃ jn : Int, wrap64 ((out1.length : Int) - 1) = jn := ⟨_, rfl⟩
          have hjv : jn = (out1.length : Int) - 1 := by rw [← hjn]; exact w64 _ (by have h1 := HBND.out; have h2 : out1.length = out.length + 1 := by { rw [← hout1]; simp }; omega)
          have hjw : IntKind.i64.wrap ((out1.length : Int) - 1) = jn := (i64_w _).trans hjn
          have n0 := eq_true (show (0 : Int) ≤ jn from by omega)
          have n1 := eq_true (show jn < (out1.length : Int) from by omega)
          have n2 : jn.toNat = out1.length - 1 := by omega
          clear hjv
          clear hn1
          go_wp2_with fail
          go_quiet (fail)
          have HS1 := Lib.hid (Kd.S_drewN HS.out nq)
          have HT1 := Lib.hid (Kd.S_drewN HT.out nq)
          have HB1 := Lib.hid (pw_below_drewN HB.out nq)
          generalize wr.drewN nq = wq at HS1 HT1 HB1 ⊢
          clear HS HT HB
          (try clear ha)
          (try clear hbb)
          go_wp2_with (first
           | ((with_reducible refine gate_builtin (b := .append) (xs := #[.tmp 60, .tmp 63]) rfl ?_); at_builtin; refine Kd.S_append k52 (w0 := w) w.heap.size rfl (.tmp 60) (.tmp 63) 29 52 (.agg #[(.int .i64 0), (.int .i64 0), (.slice none 0 0)]) 40 rfl Tryd.underlying29 info52 rfl (by decide) (by omega) u7 out ⟨(i : Int), 0, []⟩ [.int .i64 (i : Int), .int .i64 0, .slice none 0 0] (fun _ => True) (fun _ => False) rfl rfl (k52_mkM _ _ _ _ (Kd.R_nil _ _ _ _ _)) (fun _ hk => hk.elim) (fun _ _ => trivial) (Kd.S_mono HS1.out (fun _ _ => ⟨trivial, fun h => h⟩)) HB1.out HB1.out.size (by have := HBND.out; omega) ?_; intro v79 w79 ho hb hg hat; rw [hout1] at ho; have HTW := Lib.hid (rows_grown 52 HT1.out hg (se_typed HS1.out) (by decide)); have HBW := Lib.hid hb; have HSW0 := ho; obtain ⟨g, cap, rfl, -, -, -, -⟩ := Kd.S_form ho HN.out; have HSW := Lib.hid HSW0; clear ho HSW0 hb hg hat))
          obtain ⟨hT1, hT2⟩ := HSH.out
          have t1 : (rd_L6 T ((i : Int) + 1)).length = l1.length + 1 := hT2 (i + 1) (by omega)
          have t2 : (rd_L6 T (i : Int)).length = l1.length + 1 := hT2 i (by omega)
          obtain ⟨ji, hji⟩ : ∃ ji : Int, wrap64 ((i : Int) + 1) = ji := ⟨_, rfl⟩
          obtain ⟨jk, hjk⟩ : ∃ jk : Int, wrap64 ((k : Int) + 1) = jk := ⟨_, rfl⟩
          have hjiw : IntKind.i64.wrap ((i : Int) + 1) = ji := (i64_w _).trans hji
          have hjkw : IntKind.i64.wrap ((k : Int) + 1) = jk := (i64_w _).trans hjk
          have vi : ji = (i : Int) + 1 := by rw [← hji]; exact w64 _ (by omega)
          have vk : jk = (k : Int) + 1 := by rw [← hjk]; exact w64 _ (by omega)
          rw [← vi] at t1
          have x7 : ji.toNat = i + 1 := by omega
          have x8 : jk.toNat = k + 1 := by omega
          have hCT := (Kd.S_reads' HTW.out).2.2
          obtain ⟨adT, At1, cc1, eT, hx1, -, hC1⟩ := at_L6 hCT ji (by omega) (by omega)
          subst eT
          obtain ⟨ad1, e1', hy1⟩ := Kd.at_int hC1 (k : Int) (by omega) (by omega)
          subst e1'
          obtain ⟨adT', At2, cc2, eT, hx2, -, hC2⟩ := at_L6 hCT (i : Int) (by omega) (by omega)
          obtain rfl := Option.some.inj eT
          obtain ⟨ad2, e2', hy2⟩ := Kd.at_int hC2 jk (by omega) (by omega)
          subst e2'
          rw [Int.toNat_natCast] at hx2 hy1
          have y1 := eq_true (show (0 : Int) ≤ ji from by omega)
          have y2 := eq_true (show ji < (T.length : Int) from by omega)
          have y3 := eq_true (show (i : Int) < (T.length : Int) from by omega)
          have y4 := eq_true (show (k : Int) < ((rd_L6 T ji).length : Int) from by omega)
          have y5 := eq_true (show jk < ((rd_L6 T (i : Int)).length : Int) from by omega)
          have y6 := eq_true (show (0 : Int) ≤ jk from by omega)
          have tt : (tabAt T (i + 1) k ≤ tabAt T i (k + 1)) ↔ rd (rd_L6 T ji) (k : Int) ≤ rd (rd_L6 T (i : Int)) jk := by unfold tabAt rd_L6; rw [x7, Int.toNat_natCast, vk]; exact Iff.rfl
          have HVI := Lib.hid vi
          have HVK := Lib.hid vk
          clear vi vk x7 x8
          have hkn : ¬ k = l1.length := by omega
          clear hT1 hT2 t1 t2 hCT hC1 hC2 eT
          by_cases hle : rd (rd_L6 T ji) (k : Int) ≤ rd (rd_L6 T (i : Int)) jk
          ·have hd := HD.out
           rw [if_pos ⟨hi2, .inr (tt.2 hle)⟩] at hd
           clear HD
           have HD := Lib.hid hd
           have y7 := decide_eq_true hle
           clear hd hle tt
           go_quiet (fail)
           have HSZ := Lib.hid (Kd.S_drewN HSW.out nq)
           have HTZ := Lib.hid (Kd.S_drewN HTW.out nq)
           have HBZ := Lib.hid (pw_below_drewN HBW.out nq)
           generalize w79.drewN nq = wz at HSZ HTZ HBZ ⊢
           clear HSW HTW HBW
           obtain ⟨oki, v2, hR, hlt, hH⟩ := last_get HSZ.out HN.out
           obtain ⟨z0, z1, z2, zf⟩ := last_cells hH HN.out
           have z1f := zf 1
           have HR := Lib.hid hR
           have HH := Lib.hid hH
           clear hR hlt hH zf z0 z2
           obtain ⟨cz, hz⟩ := se_typed HSZ.out g rfl
           have HZG := Lib.hid hz
           clear hz
           go_wp2_with fail
           go_roundg k1
           case measure => have := HK1.out; omega
           case rel => exact ⟨stepDel out1, true, i + 1, k, rfl, by first | go_num | (rw [HVI.out]; rfl) | (simp only [HVI.out]; rfl), rfl, by omega, by omega, Lib.hid HD.out, Lib.hid (by have := HK1.out; omega), Lib.hid (last_bump HN.out HR.out HH.out _), Lib.hid (Kd.S_set HTZ.out HZG.out (by decide) _ _), Lib.hid (below_set HBZ.out (Kd.S_base HSZ.out g rfl))⟩
          ·have hd := HD.out
           rw [if_neg (fun h => h.2.elim hkn (fun h => hle (tt.1 h)))] at hd
           clear HD
           have HD := Lib.hid hd
           have y7 := decide_eq_false hle
           clear hd hle tt
           go_quiet (fail)
           have HSZ := Lib.hid (Kd.S_drewN HSW.out nq)
           have HTZ := Lib.hid (Kd.S_drewN HTW.out nq)
           have HBZ := Lib.hid (pw_below_drewN HBW.out nq)
           generalize w79.drewN nq = wz at HSZ HTZ HBZ ⊢
           clear HSW HTW HBW
           have HSD := Lib.hid (Kd.S_drew HSZ.out)
           have HTD := Lib.hid (Kd.S_drew HTZ.out)
           have HBD := Lib.hid (below_drew HBZ.out)
           obtain ⟨oki, v2, hR, hlt, hH⟩ := last_get HSD.out HN.out
           obtain ⟨A2, c2, rfl, -, -⟩ := Kd.R_reads hR
           have HH := Lib.hid hH
           obtain ⟨z0, z1, z2, zf⟩ := last_cells hH HN.out
           have HR := Lib.hid hR
           have HLT := Lib.hid hlt
           clear hR hlt hH zf z0 z1
           obtain ⟨adb', eb', sb⟩ := Kd.at_string (Kd.C_below HR1.out HBD.out) (k : Int) (by omega) (by omega)
           obtain rfl := Option.some.inj eb'
           rw [Int.toNat_natCast] at sb
           clear eb'
           obtain ⟨cz, hz⟩ := se_typed HSD.out g rfl
           have HZG := Lib.hid hz
           clear hz
           go_wp2_with fail
           refine start_ (n := 14) (S := fun w' => w'.cell? ⟨g, (out1.length - 1) * 3 + 2, none⟩ = some (.slice A2 (rd_T52 out1 ((out1.length : Int) - 1)).f2.length c2) ∧ w'.cell? (adb.add k) = some (.string (rdOf ByteArray.empty l1 (k : Int)))) (ds := [13]) #[false, false, false, false, false, false, false, false, false, false, false, false, false, false] (by kernel_rfl) rfl rfl ⟨z2, sb⟩ (fun hHeld => ?_)
           generalize wz.drew = wd at HSD HTD HBD HH HR HLT HZG z2 sb hHeld ⊢
           refine pure_ (i := 0) (N := some 108) (v := ?_) (a' := ?_) #[true, false, false, false, false, false, false, false, false, false, false, false, false, false] rfl rfl (by kernel_rfl) (fun _ _ _ h => h) (Or.inl ⟨by rfl, ?_⟩) ?_ ?_
           rotate_left
           ·intro w'
            go_simp
            with_reducible rfl
           rotate_left
           ·simp only [Act.put, List.setIfInBounds_toArray, List.set_cons_zero, List.set_cons_succ, i64_w, i32_w]
            rfl
           refine pure_ (i := 1) (N := some 109) (v := ?_) (a' := ?_) #[true, true, false, false, false, false, false, false, false, false, false, false, false, false] rfl rfl (by kernel_rfl) (fun _ _ _ h => h) (Or.inl ⟨by rfl, ?_⟩) ?_ ?_
           rotate_left
           ·intro w'
            go_simp
            with_reducible rfl
           rotate_left
           ·simp only [Act.put, List.setIfInBounds_toArray, List.set_cons_zero, List.set_cons_succ, i64_w, i32_w]
            rfl
           refine pure_ (i := 2) (N := some 110) (v := ?_) (a' := ?_) #[true, true, true, false, false, false, false, false, false, false, false, false, false, false] rfl rfl (by kernel_rfl) (fun _ _ _ h => h) (Or.inl ⟨by rfl, ?_⟩) ?_ ?_
           rotate_left
           ·intro w'
            go_simp
            with_reducible rfl
           rotate_left
           ·simp only [Act.put, List.setIfInBounds_toArray, List.set_cons_zero, List.set_cons_succ, i64_w, i32_w]
            rfl
           refine pure_ (i := 3) (N := some 111) (v := ?_) (a' := ?_) #[true, true, true, true, false, false, false, false, false, false, false, false, false, false] rfl rfl (by kernel_rfl) (fun _ _ _ h => h) (Or.inl ⟨by rfl, ?_⟩) ?_ ?_
           rotate_left
           ·intro w'
            go_simp
            with_reducible rfl
           rotate_left
           ·simp only [Act.put, List.setIfInBounds_toArray, List.set_cons_zero, List.set_cons_succ, i64_w, i32_w]
            rfl
           refine pure_ (i := 5) (N := some 113) (v := ?_) (a' := ?_) #[true, true, true, true, false, true, false, false, false, false, false, false, false, false] rfl rfl (by kernel_rfl) (fun _ _ _ h => h) (Or.inl ⟨by rfl, ?_⟩) ?_ ?_
           rotate_left
           ·intro w'
            go_simp
            with_reducible rfl
           rotate_left
           ·simp only [Act.put, List.setIfInBounds_toArray, List.set_cons_zero, List.set_cons_succ, i64_w, i32_w]
            rfl
           refine pure_ (i := 6) (N := some 114) (v := ?_) (a' := ?_) #[true, true, true, true, false, true, true, false, false, false, false, false, false, false] rfl rfl (by kernel_rfl) (fun _ _ _ h => h) (Or.inl ⟨by rfl, ?_⟩) ?_ ?_
           rotate_left
           ·intro w'
            go_simp
            with_reducible rfl
           rotate_left
           ·simp only [Act.put, List.setIfInBounds_toArray, List.set_cons_zero, List.set_cons_succ, i64_w, i32_w]
            rfl
           refine pure_ (i := 7) (N := some 115) (v := ?_) (a' := ?_) #[true, true, true, true, false, true, true, true, false, false, false, false, false, false] rfl rfl (by kernel_rfl) (fun _ _ _ h => h) (Or.inl ⟨by rfl, ?_⟩) ?_ ?_
           rotate_left
           ·intro w'
            go_simp
            with_reducible rfl
           rotate_left
           ·simp only [Act.put, List.setIfInBounds_toArray, List.set_cons_zero, List.set_cons_succ, i64_w, i32_w]
            rfl
           refine take_ (i := 4) (N := some 112) (v := ?_) (a' := ?_) #[true, true, true, true, true, true, true, true, false, false, false, false, false, false] rfl rfl (by kernel_rfl) (fun _ _ _ h => h) (Or.inl ⟨by rfl, ?_⟩) hHeld ?_ ?_
           rotate_left
           ·rintro w' ⟨s0, s1⟩
            go_simp
            with_reducible rfl
           rotate_left
           ·simp only [Act.put, List.setIfInBounds_toArray, List.set_cons_zero, List.set_cons_succ, i64_w, i32_w]
            rfl
           refine take_ (i := 8) (N := some 116) (v := ?_) (a' := ?_) #[true, true, true, true, true, true, true, true, true, false, false, false, false, false] rfl rfl (by kernel_rfl) (fun _ _ _ h => h) (Or.inl ⟨by rfl, ?_⟩) hHeld ?_ ?_
           rotate_left
           ·rintro w' ⟨s0, s1⟩
            go_simp
            with_reducible rfl
           rotate_left
           ·simp only [Act.put, List.setIfInBounds_toArray, List.set_cons_zero, List.set_cons_succ, i64_w, i32_w]
            rfl
           refine one_ (i := 9) (N := some 117) #[true, true, true, true, true, true, true, true, true, true, false, false, false, false] rfl rfl (by kernel_rfl) (by decide) (fun K hK => ?_)
           refine value_ (w1 := ?_) (v := ?_) (by rfl) rfl ?_ ?_
           rotate_left 2
           ·go_simp
            constructor
            ·rfl
            ·rfl
           refine hK.out _ _ ⟨pw_cell_below (below_alloc (Below.refl wd.heap.size wd) _) z2, pw_cell_below (below_alloc (Below.refl wd.heap.size wd) _) sb⟩ (fun hHeld => ?_)
           clear hK K
           refine norm_ (a' := ?_) ?_ ?_
           rotate_left
           ·show Act.put _ (some 117) _ = _
            simp only [Act.put, List.setIfInBounds_toArray, List.set_cons_zero, List.set_cons_succ, i64_w, i32_w]
            rfl
           refine one_ (i := 10) (N := some 118) #[true, true, true, true, true, true, true, true, true, true, true, false, false, false] rfl rfl (by kernel_rfl) (by decide) (fun K hK => ?_)
           refine Kd.R_append_step Kd.string (w0 := w) w.heap.size (by rfl) (.tmp 112) (.tmp 117) 28 9 (.string ⟨#[]⟩) 16 (by rfl) Tryd.underlying28 info9 rfl (by decide) (by omega) (.slice A2 (rd_T52 out1 ((out1.length : Int) - 1)).f2.length c2) (rd_T52 out1 ((out1.length : Int) - 1)).f2 (rdOf ByteArray.empty l1 (k : Int)) [.string (rdOf ByteArray.empty l1 (k : Int))] (fun k => oki k ∨ wd.heap.size ≤ k) (fun _ => False) (by rfl) (by rfl) rfl (fun _ hk => hk.elim) (fun k hk => .inr hk) (Kd.R_mono HR.out (fun k hk => .inl hk)) HBD.out HBD.out.size (by have h1 := HF2.out; unfold lastE at h1; omega) ?_
           intro v3 w3 ho hb hg hat
           have HRV0 := ho
           obtain ⟨A3, c3, rfl, -, -⟩ := Kd.R_reads ho
           have HRV := Lib.hid HRV0
           have HGV := Lib.hid hg
           have HBV := Lib.hid hb
           clear ho hb hg hat HRV0
           have HNE : Hid (some g ≠ (Value.slice A2 (rd_T52 out1 ((out1.length : Int) - 1)).f2.length c2).ownBlock) := Lib.hid (own_ne9 HR.out HZG.out)
           obtain ⟨-, -, e4, q4⟩ := last_cells (Kd.H_grown HH.out HGV.out (fun k hk => HR.out.1 k hk)) HN.out
           have q5 := q4 2
           clear q4
           obtain ⟨adb3, eb3, sb3⟩ := Kd.at_string (Kd.C_below HR1.out HBV.out) (k : Int) (by omega) (by omega)
           obtain rfl := Option.some.inj eb3
           clear eb3
           rw [Int.toNat_natCast] at sb3
           refine hK.out _ _ ⟨e4, sb3⟩ (fun hHeld => ?_)
           clear hK K
           refine norm_ (a' := ?_) ?_ ?_
           rotate_left
           ·show Act.put _ (some 118) _ = _
            simp only [Act.put, List.setIfInBounds_toArray, List.set_cons_zero, List.set_cons_succ, i64_w, i32_w]
            rfl
           refine pure_ (i := 11) (N := some 119) (v := ?_) (a' := ?_) #[true, true, true, true, true, true, true, true, true, true, true, true, false, false] rfl rfl (by kernel_rfl) (fun _ _ _ h => h) (Or.inl ⟨by rfl, ?_⟩) ?_ ?_
           rotate_left
           ·intro w'
            go_simp
            with_reducible rfl
           rotate_left
           ·simp only [Act.put, List.setIfInBounds_toArray, List.set_cons_zero, List.set_cons_succ, i64_w, i32_w]
            rfl
           refine pure_ (i := 12) (N := some 120) (v := ?_) (a' := ?_) #[true, true, true, true, true, true, true, true, true, true, true, true, true, false] rfl rfl (by kernel_rfl) (fun _ _ _ h => h) (Or.inl ⟨by rfl, ?_⟩) ?_ ?_
           rotate_left
           ·intro w'
            go_simp
            with_reducible rfl
           rotate_left
           ·simp only [Act.put, List.setIfInBounds_toArray, List.set_cons_zero, List.set_cons_succ, i64_w, i32_w]
            rfl
           refine last_ (i := 13) (N := none) #[true, true, true, true, true, true, true, true, true, true, true, true, true, true] rfl rfl (by kernel_rfl) (by decide) (fun K hK => ?_)
           refine skip_ (w1 := ?_) (by rfl) rfl ?_ ?_
           rotate_left
           ·go_simp
            rfl
           refine hK.out _ _ ?_
           clear hK K
           refine done_ (by kernel_rfl) ?_
           have HFIN := Lib.hid (last_add (W1 := w3) HN.out HLT.out HGV.out HR.out HRV.out HH.out (blk_lt HZG.out))
           have HT3 := Lib.hid (rows_grown 9 HTD.out HGV.out (fun k hk => by
            obtain ⟨inner, ho⟩ := Kd.R_own HR.out
            exact own_typed ho k hk) (by decide))
           go_wp2_with fail
           go_roundg k1
           case measure => have := HK1.out; omega
           case rel => exact ⟨stepAdd out1 (rdOf ByteArray.empty l1 (k : Int)), true, i, k + 1, rfl, rfl, by first | go_num | (rw [HVK.out]; rfl) | (simp only [HVK.out]; rfl), by omega, by omega, Lib.hid HD.out, Lib.hid (by have := HK1.out; omega), Lib.hid (by have h := HFIN.out; rw [List.length_append, List.length_singleton] at h; exact h), Lib.hid (Kd.S_set HT3.out (blk_grown HZG.out HGV.out HNE.out) (by decide) _ _), Lib.hid (below_set HBV.out (Kd.S_base HSD.out g rfl))⟩
         ·skip
          have HC := Lib.hid hd
          clear hd
          obtain ⟨⟨hn1, hbn, hf2⟩, hd⟩ := dif_gap HC.out
          clear HC
          simp only [gapE, if_true] at hn1 hf2 hd
          obtain ⟨g, cap, rfl, -, -, -, -⟩ := Kd.S_form HS.out hn1
          have HN := Lib.hid hn1
          have HF2 := Lib.hid hf2
          have HD := Lib.hid hd
          clear hf2 hd
          obtain ⟨out1, hout1⟩ : ∃ out1, out = out1 := ⟨_, rfl⟩
          subst hout1
          obtain ⟨jn, hjn⟩ : ∃ jn : Int, wrap64 ((out.length : Int) - 1) = jn := ⟨_, rfl⟩
          have hjv : jn = (out.length : Int) - 1 := by rw [← hjn]; exact w64 _ (by omega)
          have hjw : IntKind.i64.wrap ((out.length : Int) - 1) = jn := (i64_w _).trans hjn
          have n0 := eq_true (show (0 : Int) ≤ jn from by omega)
          have n1 := eq_true (show jn < (out.length : Int) from by omega)
          have n2 : jn.toNat = out.length - 1 := by omega
          clear hjv
          clear hn1
          go_wp2_with fail
          go_quiet (fail)
          have HS1 := Lib.hid (Kd.S_drewN HS.out nq)
          have HT1 := Lib.hid (Kd.S_drewN HT.out nq)
          have HB1 := Lib.hid (pw_below_drewN HB.out nq)
          generalize wr.drewN nq = wq at HS1 HT1 HB1 ⊢
          clear HS HT HB
          (try clear ha)
          (try clear hbb)
          have HSW := HS1
          have HTW := HT1
          have HBW := HB1
          clear HS1 HT1 HB1
          go_wp2_with fail
          obtain ⟨hT1, hT2⟩ := HSH.out
          have t1 : (rd_L6 T ((i : Int) + 1)).length = l1.length + 1 := hT2 (i + 1) (by omega)
          have t2 : (rd_L6 T (i : Int)).length = l1.length + 1 := hT2 i (by omega)
          obtain ⟨ji, hji⟩ : ∃ ji : Int, wrap64 ((i : Int) + 1) = ji := ⟨_, rfl⟩
          obtain ⟨jk, hjk⟩ : ∃ jk : Int, wrap64 ((k : Int) + 1) = jk := ⟨_, rfl⟩
          have hjiw : IntKind.i64.wrap ((i : Int) + 1) = ji := (i64_w _).trans hji
          have hjkw : IntKind.i64.wrap ((k : Int) + 1) = jk := (i64_w _).trans hjk
          have vi : ji = (i : Int) + 1 := by rw [← hji]; exact w64 _ (by omega)
          have vk : jk = (k : Int) + 1 := by rw [← hjk]; exact w64 _ (by omega)
          rw [← vi] at t1
          have x7 : ji.toNat = i + 1 := by omega
          have x8 : jk.toNat = k + 1 := by omega
          have hCT := (Kd.S_reads' HTW.out).2.2
          obtain ⟨adT, At1, cc1, eT, hx1, -, hC1⟩ := at_L6 hCT ji (by omega) (by omega)
          subst eT
          obtain ⟨ad1, e1', hy1⟩ := Kd.at_int hC1 (k : Int) (by omega) (by omega)
          subst e1'
          obtain ⟨adT', At2, cc2, eT, hx2, -, hC2⟩ := at_L6 hCT (i : Int) (by omega) (by omega)
          obtain rfl := Option.some.inj eT
          obtain ⟨ad2, e2', hy2⟩ := Kd.at_int hC2 jk (by omega) (by omega)
          subst e2'
          rw [Int.toNat_natCast] at hx2 hy1
          have y1 := eq_true (show (0 : Int) ≤ ji from by omega)
          have y2 := eq_true (show ji < (T.length : Int) from by omega)
          have y3 := eq_true (show (i : Int) < (T.length : Int) from by omega)
          have y4 := eq_true (show (k : Int) < ((rd_L6 T ji).length : Int) from by omega)
          have y5 := eq_true (show jk < ((rd_L6 T (i : Int)).length : Int) from by omega)
          have y6 := eq_true (show (0 : Int) ≤ jk from by omega)
          have tt : (tabAt T (i + 1) k ≤ tabAt T i (k + 1)) ↔ rd (rd_L6 T ji) (k : Int) ≤ rd (rd_L6 T (i : Int)) jk := by unfold tabAt rd_L6; rw [x7, Int.toNat_natCast, vk]; exact Iff.rfl
          have HVI := Lib.hid vi
          have HVK := Lib.hid vk
          clear vi vk x7 x8
          have hkn : ¬ k = l1.length := by omega
          clear hT1 hT2 t1 t2 hCT hC1 hC2 eT
          by_cases hle : rd (rd_L6 T ji) (k : Int) ≤ rd (rd_L6 T (i : Int)) jk
          ·have hd := HD.out
           rw [if_pos ⟨hi2, .inr (tt.2 hle)⟩] at hd
           clear HD
           have HD := Lib.hid hd
           have y7 := decide_eq_true hle
           clear hd hle tt
           go_quiet (fail)
           have HSZ := Lib.hid (Kd.S_drewN HSW.out nq)
           have HTZ := Lib.hid (Kd.S_drewN HTW.out nq)
           have HBZ := Lib.hid (pw_below_drewN HBW.out nq)
           generalize wq.drewN nq = wz at HSZ HTZ HBZ ⊢
           clear HSW HTW HBW
           obtain ⟨oki, v2, hR, hlt, hH⟩ := last_get HSZ.out HN.out
           obtain ⟨z0, z1, z2, zf⟩ := last_cells hH HN.out
           have z1f := zf 1
           have HR := Lib.hid hR
           have HH := Lib.hid hH
           clear hR hlt hH zf z0 z2
           obtain ⟨cz, hz⟩ := se_typed HSZ.out g rfl
           have HZG := Lib.hid hz
           clear hz
           go_wp2_with fail
           go_roundg k1
           case measure => have := HK1.out; omega
           case rel => exact ⟨stepDel out, true, i + 1, k, rfl, by first | go_num | (rw [HVI.out]; rfl) | (simp only [HVI.out]; rfl), rfl, by omega, by omega, Lib.hid HD.out, Lib.hid (by have := HK1.out; omega), Lib.hid (last_bump HN.out HR.out HH.out _), Lib.hid (Kd.S_set HTZ.out HZG.out (by decide) _ _), Lib.hid (below_set HBZ.out (Kd.S_base HSZ.out g rfl))⟩
          ·have hd := HD.out
           rw [if_neg (fun h => h.2.elim hkn (fun h => hle (tt.1 h)))] at hd
           clear HD
           have HD := Lib.hid hd
           have y7 := decide_eq_false hle
           clear hd hle tt
           go_quiet (fail)
           have HSZ := Lib.hid (Kd.S_drewN HSW.out nq)
           have HTZ := Lib.hid (Kd.S_drewN HTW.out nq)
           have HBZ := Lib.hid (pw_below_drewN HBW.out nq)
           generalize wq.drewN nq = wz at HSZ HTZ HBZ ⊢
           clear HSW HTW HBW
           have HSD := Lib.hid (Kd.S_drew HSZ.out)
           have HTD := Lib.hid (Kd.S_drew HTZ.out)
           have HBD := Lib.hid (below_drew HBZ.out)
           obtain ⟨oki, v2, hR, hlt, hH⟩ := last_get HSD.out HN.out
           obtain ⟨A2, c2, rfl, -, -⟩ := Kd.R_reads hR
           have HH := Lib.hid hH
           obtain ⟨z0, z1, z2, zf⟩ := last_cells hH HN.out
           have HR := Lib.hid hR
           have HLT := Lib.hid hlt
           clear hR hlt hH zf z0 z1
           obtain ⟨adb', eb', sb⟩ := Kd.at_string (Kd.C_below HR1.out HBD.out) (k : Int) (by omega) (by omega)
           obtain rfl := Option.some.inj eb'
           rw [Int.toNat_natCast] at sb
           clear eb'
           obtain ⟨cz, hz⟩ := se_typed HSD.out g rfl
           have HZG := Lib.hid hz
           clear hz
           go_wp2_with fail
           refine start_ (n := 14) (S := fun w' => w'.cell? ⟨g, (out.length - 1) * 3 + 2, none⟩ = some (.slice A2 (rd_T52 out ((out.length : Int) - 1)).f2.length c2) ∧ w'.cell? (adb.add k) = some (.string (rdOf ByteArray.empty l1 (k : Int)))) (ds := [13]) #[false, false, false, false, false, false, false, false, false, false, false, false, false, false] (by kernel_rfl) rfl rfl ⟨z2, sb⟩ (fun hHeld => ?_)
           generalize wz.drew = wd at HSD HTD HBD HH HR HLT HZG z2 sb hHeld ⊢
           refine pure_ (i := 0) (N := some 108) (v := ?_) (a' := ?_) #[true, false, false, false, false, false, false, false, false, false, false, false, false, false] rfl rfl (by kernel_rfl) (fun _ _ _ h => h) (Or.inl ⟨by rfl, ?_⟩) ?_ ?_
           rotate_left
           ·intro w'
            go_simp
            with_reducible rfl
           rotate_left
           ·simp only [Act.put, List.setIfInBounds_toArray, List.set_cons_zero, List.set_cons_succ, i64_w, i32_w]
            rfl
           refine pure_ (i := 1) (N := some 109) (v := ?_) (a' := ?_) #[true, true, false, false, false, false, false, false, false, false, false, false, false, false] rfl rfl (by kernel_rfl) (fun _ _ _ h => h) (Or.inl ⟨by rfl, ?_⟩) ?_ ?_
           rotate_left
           ·intro w'
            go_simp
            with_reducible rfl
           rotate_left
           ·simp only [Act.put, List.setIfInBounds_toArray, List.set_cons_zero, List.set_cons_succ, i64_w, i32_w]
            rfl
           refine pure_ (i := 2) (N := some 110) (v := ?_) (a' := ?_) #[true, true, true, false, false, false, false, false, false, false, false, false, false, false] rfl rfl (by kernel_rfl) (fun _ _ _ h => h) (Or.inl ⟨by rfl, ?_⟩) ?_ ?_
           rotate_left
           ·intro w'
            go_simp
            with_reducible rfl
           rotate_left
           ·simp only [Act.put, List.setIfInBounds_toArray, List.set_cons_zero, List.set_cons_succ, i64_w, i32_w]
            rfl
           refine pure_ (i := 3) (N := some 111) (v := ?_) (a' := ?_) #[true, true, true, true, false, false, false, false, false, false, false, false, false, false] rfl rfl (by kernel_rfl) (fun _ _ _ h => h) (Or.inl ⟨by rfl, ?_⟩) ?_ ?_
           rotate_left
           ·intro w'
            go_simp
            with_reducible rfl
           rotate_left
           ·simp only [Act.put, List.setIfInBounds_toArray, List.set_cons_zero, List.set_cons_succ, i64_w, i32_w]
            rfl
           refine pure_ (i := 5) (N := some 113) (v := ?_) (a' := ?_) #[true, true, true, true, false, true, false, false, false, false, false, false, false, false] rfl rfl (by kernel_rfl) (fun _ _ _ h => h) (Or.inl ⟨by rfl, ?_⟩) ?_ ?_
           rotate_left
           ·intro w'
            go_simp
            with_reducible rfl
           rotate_left
           ·simp only [Act.put, List.setIfInBounds_toArray, List.set_cons_zero, List.set_cons_succ, i64_w, i32_w]
            rfl
           refine pure_ (i := 6) (N := some 114) (v := ?_) (a' := ?_) #[true, true, true, true, false, true, true, false, false, false, false, false, false, false] rfl rfl (by kernel_rfl) (fun _ _ _ h => h) (Or.inl ⟨by rfl, ?_⟩) ?_ ?_
           rotate_left
           ·intro w'
            go_simp
            with_reducible rfl
           rotate_left
           ·simp only [Act.put, List.setIfInBounds_toArray, List.set_cons_zero, List.set_cons_succ, i64_w, i32_w]
            rfl
           refine pure_ (i := 7) (N := some 115) (v := ?_) (a' := ?_) #[true, true, true, true, false, true, true, true, false, false, false, false, false, false] rfl rfl (by kernel_rfl) (fun _ _ _ h => h) (Or.inl ⟨by rfl, ?_⟩) ?_ ?_
           rotate_left
           ·intro w'
            go_simp
            with_reducible rfl
           rotate_left
           ·simp only [Act.put, List.setIfInBounds_toArray, List.set_cons_zero, List.set_cons_succ, i64_w, i32_w]
            rfl
           refine take_ (i := 4) (N := some 112) (v := ?_) (a' := ?_) #[true, true, true, true, true, true, true, true, false, false, false, false, false, false] rfl rfl (by kernel_rfl) (fun _ _ _ h => h) (Or.inl ⟨by rfl, ?_⟩) hHeld ?_ ?_
           rotate_left
           ·rintro w' ⟨s0, s1⟩
            go_simp
            with_reducible rfl
           rotate_left
           ·simp only [Act.put, List.setIfInBounds_toArray, List.set_cons_zero, List.set_cons_succ, i64_w, i32_w]
            rfl
           refine take_ (i := 8) (N := some 116) (v := ?_) (a' := ?_) #[true, true, true, true, true, true, true, true, true, false, false, false, false, false] rfl rfl (by kernel_rfl) (fun _ _ _ h => h) (Or.inl ⟨by rfl, ?_⟩) hHeld ?_ ?_
           rotate_left
           ·rintro w' ⟨s0, s1⟩
            go_simp
            with_reducible rfl
           rotate_left
           ·simp only [Act.put, List.setIfInBounds_toArray, List.set_cons_zero, List.set_cons_succ, i64_w, i32_w]
            rfl
           refine one_ (i := 9) (N := some 117) #[true, true, true, true, true, true, true, true, true, true, false, false, false, false] rfl rfl (by kernel_rfl) (by decide) (fun K hK => ?_)
           refine value_ (w1 := ?_) (v := ?_) (by rfl) rfl ?_ ?_
           rotate_left 2
           ·go_simp
            constructor
            ·rfl
            ·rfl
           refine hK.out _ _ ⟨pw_cell_below (below_alloc (Below.refl wd.heap.size wd) _) z2, pw_cell_below (below_alloc (Below.refl wd.heap.size wd) _) sb⟩ (fun hHeld => ?_)
           clear hK K
           refine norm_ (a' := ?_) ?_ ?_
           rotate_left
           ·show Act.put _ (some 117) _ = _
            simp only [Act.put, List.setIfInBounds_toArray, List.set_cons_zero, List.set_cons_succ, i64_w, i32_w]
            rfl
           refine one_ (i := 10) (N := some 118) #[true, true, true, true, true, true, true, true, true, true, true, false, false, false] rfl rfl (by kernel_rfl) (by decide) (fun K hK => ?_)
           refine Kd.R_append_step Kd.string (w0 := w) w.heap.size (by rfl) (.tmp 112) (.tmp 117) 28 9 (.string ⟨#[]⟩) 16 (by rfl) Tryd.underlying28 info9 rfl (by decide) (by omega) (.slice A2 (rd_T52 out ((out.length : Int) - 1)).f2.length c2) (rd_T52 out ((out.length : Int) - 1)).f2 (rdOf ByteArray.empty l1 (k : Int)) [.string (rdOf ByteArray.empty l1 (k : Int))] (fun k => oki k ∨ wd.heap.size ≤ k) (fun _ => False) (by rfl) (by rfl) rfl (fun _ hk => hk.elim) (fun k hk => .inr hk) (Kd.R_mono HR.out (fun k hk => .inl hk)) HBD.out HBD.out.size (by have h1 := HF2.out; unfold lastE at h1; omega) ?_
           intro v3 w3 ho hb hg hat
           have HRV0 := ho
           obtain ⟨A3, c3, rfl, -, -⟩ := Kd.R_reads ho
           have HRV := Lib.hid HRV0
           have HGV := Lib.hid hg
           have HBV := Lib.hid hb
           clear ho hb hg hat HRV0
           have HNE : Hid (some g ≠ (Value.slice A2 (rd_T52 out ((out.length : Int) - 1)).f2.length c2).ownBlock) := Lib.hid (own_ne9 HR.out HZG.out)
           obtain ⟨-, -, e4, q4⟩ := last_cells (Kd.H_grown HH.out HGV.out (fun k hk => HR.out.1 k hk)) HN.out
           have q5 := q4 2
           clear q4
           obtain ⟨adb3, eb3, sb3⟩ := Kd.at_string (Kd.C_below HR1.out HBV.out) (k : Int) (by omega) (by omega)
           obtain rfl := Option.some.inj eb3
           clear eb3
           rw [Int.toNat_natCast] at sb3
           refine hK.out _ _ ⟨e4, sb3⟩ (fun hHeld => ?_)
           clear hK K
           refine norm_ (a' := ?_) ?_ ?_
           rotate_left
           ·show Act.put _ (some 118) _ = _
            simp only [Act.put, List.setIfInBounds_toArray, List.set_cons_zero, List.set_cons_succ, i64_w, i32_w]
            rfl
           refine pure_ (i := 11) (N := some 119) (v := ?_) (a' := ?_) #[true, true, true, true, true, true, true, true, true, true, true, true, false, false] rfl rfl (by kernel_rfl) (fun _ _ _ h => h) (Or.inl ⟨by rfl, ?_⟩) ?_ ?_
           rotate_left
           ·intro w'
            go_simp
            with_reducible rfl
           rotate_left
           ·simp only [Act.put, List.setIfInBounds_toArray, List.set_cons_zero, List.set_cons_succ, i64_w, i32_w]
            rfl
           refine pure_ (i := 12) (N := some 120) (v := ?_) (a' := ?_) #[true, true, true, true, true, true, true, true, true, true, true, true, true, false] rfl rfl (by kernel_rfl) (fun _ _ _ h => h) (Or.inl ⟨by rfl, ?_⟩) ?_ ?_
           rotate_left
           ·intro w'
            go_simp
            with_reducible rfl
           rotate_left
           ·simp only [Act.put, List.setIfInBounds_toArray, List.set_cons_zero, List.set_cons_succ, i64_w, i32_w]
            rfl
           refine last_ (i := 13) (N := none) #[true, true, true, true, true, true, true, true, true, true, true, true, true, true] rfl rfl (by kernel_rfl) (by decide) (fun K hK => ?_)
           refine skip_ (w1 := ?_) (by rfl) rfl ?_ ?_
           rotate_left
           ·go_simp
            rfl
           refine hK.out _ _ ?_
           clear hK K
           refine done_ (by kernel_rfl) ?_
           have HFIN := Lib.hid (last_add (W1 := w3) HN.out HLT.out HGV.out HR.out HRV.out HH.out (blk_lt HZG.out))
           have HT3 := Lib.hid (rows_grown 9 HTD.out HGV.out (fun k hk => by
            obtain ⟨inner, ho⟩ := Kd.R_own HR.out
            exact own_typed ho k hk) (by decide))
           go_wp2_with fail
           go_roundg k1
           case measure => have := HK1.out; omega
           case rel => exact ⟨stepAdd out (rdOf ByteArray.empty l1 (k : Int)), true, i, k + 1, rfl, rfl, by first | go_num | (rw [HVK.out]; rfl) | (simp only [HVK.out]; rfl), by omega, by omega, Lib.hid HD.out, Lib.hid (by have := HK1.out; omega), Lib.hid (by have h := HFIN.out; rw [List.length_append, List.length_singleton] at h; exact h), Lib.hid (Kd.S_set HT3.out (blk_grown HZG.out HGV.out HNE.out) (by decide) _ _), Lib.hid (below_set HBV.out (Kd.S_base HSD.out g rfl))⟩
       ·obtain rfl : k = l1.length := by omega
        have k0 := decide_eq_false (show ¬ (l1.length : Int) < (l1.length : Int) from by omega)
        have k3 : ((l1.length : Int) == (l1.length : Int)) = true := beq_self_eq_true _
        rw [if_pos (Or.inl hi2), if_neg (fun h => Nat.lt_irrefl _ h.2.1)] at hd
        cases gap
        ·skip
         have HC := Lib.hid hd
         clear hd
         obtain ⟨⟨hn1, hbn, hf2⟩, hd⟩ := dif_gap HC.out
         clear HC
         simp only [gapE, Bool.false_eq_true, if_false] at hn1 hf2 hd
         obtain ⟨out1, hout1⟩ : ∃ out1, out ++ [(⟨(i : Int), 0, []⟩ : S52)] = out1 := ⟨_, rfl⟩
         rw [hout1] at hn1 hf2 hd
         have HN := Lib.hid hn1
         have HBND := Lib.hid hbn
         have HF2 := Lib.hid hf2
         have HD := Lib.hid hd
         clear hf2 hd hbn
         obtain ⟨jn, hjn⟩ : ∃ jn : Int, wrap64 ((out1.length : Int) - 1) = jn := ⟨_, rfl⟩
         have hjv : jn = (out1.length : Int) - 1 := by rw [← hjn]; exact w64 _ (by have h1 := HBND.out; have h2 : out1.length = out.length + 1 := by { rw [← hout1]; simp }; omega)
         have hjw : IntKind.i64.wrap ((out1.length : Int) - 1) = jn := (i64_w _).trans hjn
         have n0 := eq_true (show (0 : Int) ≤ jn from by omega)
         have n1 := eq_true (show jn < (out1.length : Int) from by omega)
         have n2 : jn.toNat = out1.length - 1 := by omega
         clear hjv
         clear hn1
         go_wp2_with fail
         go_quiet (fail)
         have HS1 := Lib.hid (Kd.S_drewN HS.out nq)
         have HT1 := Lib.hid (Kd.S_drewN HT.out nq)
         have HB1 := Lib.hid (pw_below_drewN HB.out nq)
         generalize wr.drewN nq = wq at HS1 HT1 HB1 ⊢
         clear HS HT HB
         (try clear ha)
         (try clear hbb)
         go_wp2_with (first
          | ((with_reducible refine gate_builtin (b := .append) (xs := #[.tmp 60, .tmp 63]) rfl ?_); at_builtin; refine Kd.S_append k52 (w0 := w) w.heap.size rfl (.tmp 60) (.tmp 63) 29 52 (.agg #[(.int .i64 0), (.int .i64 0), (.slice none 0 0)]) 40 rfl Tryd.underlying29 info52 rfl (by decide) (by omega) u7 out ⟨(i : Int), 0, []⟩ [.int .i64 (i : Int), .int .i64 0, .slice none 0 0] (fun _ => True) (fun _ => False) rfl rfl (k52_mkM _ _ _ _ (Kd.R_nil _ _ _ _ _)) (fun _ hk => hk.elim) (fun _ _ => trivial) (Kd.S_mono HS1.out (fun _ _ => ⟨trivial, fun h => h⟩)) HB1.out HB1.out.size (by have := HBND.out; omega) ?_; intro v79 w79 ho hb hg hat; rw [hout1] at ho; have HTW := Lib.hid (rows_grown 52 HT1.out hg (se_typed HS1.out) (by decide)); have HBW := Lib.hid hb; have HSW0 := ho; obtain ⟨g, cap, rfl, -, -, -, -⟩ := Kd.S_form ho HN.out; have HSW := Lib.hid HSW0; clear ho HSW0 hb hg hat))
         have hd := HD.out
         rw [if_pos ⟨hi2, .inl (by first | trivial | rfl)⟩] at hd
         clear HD
         have HD := Lib.hid hd
         clear hd
         go_quiet (fail)
         have HSZ := Lib.hid (Kd.S_drewN HSW.out nq)
         have HTZ := Lib.hid (Kd.S_drewN HTW.out nq)
         have HBZ := Lib.hid (pw_below_drewN HBW.out nq)
         generalize w79.drewN nq = wz at HSZ HTZ HBZ ⊢
         clear HSW HTW HBW
         obtain ⟨oki, v2, hR, hlt, hH⟩ := last_get HSZ.out HN.out
         obtain ⟨z0, z1, z2, zf⟩ := last_cells hH HN.out
         have z1f := zf 1
         have HR := Lib.hid hR
         have HH := Lib.hid hH
         clear hR hlt hH zf z0 z2
         obtain ⟨cz, hz⟩ := se_typed HSZ.out g rfl
         have HZG := Lib.hid hz
         clear hz
         go_wp2_with fail
         go_roundg k1
         case measure => have := HK1.out; omega
         case rel => exact ⟨stepDel out1, true, i + 1, l1.length, rfl, by first | go_num | (rw [HVI.out]; rfl) | (simp only [HVI.out]; rfl), rfl, by omega, by omega, Lib.hid HD.out, Lib.hid (by have := HK1.out; omega), Lib.hid (last_bump HN.out HR.out HH.out _), Lib.hid (Kd.S_set HTZ.out HZG.out (by decide) _ _), Lib.hid (below_set HBZ.out (Kd.S_base HSZ.out g rfl))⟩
        ·skip
         have HC := Lib.hid hd
         clear hd
         obtain ⟨⟨hn1, hbn, hf2⟩, hd⟩ := dif_gap HC.out
         clear HC
         simp only [gapE, if_true] at hn1 hf2 hd
         obtain ⟨g, cap, rfl, -, -, -, -⟩ := Kd.S_form HS.out hn1
         have HN := Lib.hid hn1
         have HF2 := Lib.hid hf2
         have HD := Lib.hid hd
         clear hf2 hd
         obtain ⟨out1, hout1⟩ : ∃ out1, out = out1 := ⟨_, rfl⟩
         subst hout1
         obtain ⟨jn, hjn⟩ : ∃ jn : Int, wrap64 ((out.length : Int) - 1) = jn := ⟨_, rfl⟩
         have hjv : jn = (out.length : Int) - 1 := by rw [← hjn]; exact w64 _ (by omega)
         have hjw : IntKind.i64.wrap ((out.length : Int) - 1) = jn := (i64_w _).trans hjn
         have n0 := eq_true (show (0 : Int) ≤ jn from by omega)
         have n1 := eq_true (show jn < (out.length : Int) from by omega)
         have n2 : jn.toNat = out.length - 1 := by omega
         clear hjv
         clear hn1
         go_wp2_with fail
         go_quiet (fail)
         have HS1 := Lib.hid (Kd.S_drewN HS.out nq)
         have HT1 := Lib.hid (Kd.S_drewN HT.out nq)
         have HB1 := Lib.hid (pw_below_drewN HB.out nq)
         generalize wr.drewN nq = wq at HS1 HT1 HB1 ⊢
         clear HS HT HB
         (try clear ha)
         (try clear hbb)
         have HSW := HS1
         have HTW := HT1
         have HBW := HB1
         clear HS1 HT1 HB1
         go_wp2_with fail
         have hd := HD.out
         rw [if_pos ⟨hi2, .inl (by first | trivial | rfl)⟩] at hd
         clear HD
         have HD := Lib.hid hd
         clear hd
         go_quiet (fail)
         have HSZ := Lib.hid (Kd.S_drewN HSW.out nq)
         have HTZ := Lib.hid (Kd.S_drewN HTW.out nq)
         have HBZ := Lib.hid (pw_below_drewN HBW.out nq)
         generalize wq.drewN nq = wz at HSZ HTZ HBZ ⊢
         clear HSW HTW HBW
         obtain ⟨oki, v2, hR, hlt, hH⟩ := last_get HSZ.out HN.out
         obtain ⟨z0, z1, z2, zf⟩ := last_cells hH HN.out
         have z1f := zf 1
         have HR := Lib.hid hR
         have HH := Lib.hid hH
         clear hR hlt hH zf z0 z2
         obtain ⟨cz, hz⟩ := se_typed HSZ.out g rfl
         have HZG := Lib.hid hz
         clear hz
         go_wp2_with fail
         go_roundg k1
         case measure => have := HK1.out; omega
         case rel => exact ⟨stepDel out, true, i + 1, l1.length, rfl, by first | go_num | (rw [HVI.out]; rfl) | (simp only [HVI.out]; rfl), rfl, by omega, by omega, Lib.hid HD.out, Lib.hid (by have := HK1.out; omega), Lib.hid (last_bump HN.out HR.out HH.out _), Lib.hid (Kd.S_set HTZ.out HZG.out (by decide) _ _), Lib.hid (below_set HBZ.out (Kd.S_base HSZ.out g rfl))⟩
      ·obtain rfl : i = l0.length := by omega
       have i0 := decide_eq_false (show ¬ (l0.length : Int) < (l0.length : Int) from by omega)
       by_cases hk2 : k < l1.length
       ·have k0 := decide_eq_true (show (k : Int) < (l1.length : Int) from by omega)
        have k01 := eq_true (show (k : Int) < (l1.length : Int) from by omega)
        have k02 := eq_true (show (0 : Int) ≤ (k : Int) from by omega)
        have k3 : ((k : Int) == (l1.length : Int)) = false := beq_eq_false_iff_ne.mpr (by omega)
        obtain ⟨adb, eb, hbb⟩ := Kd.at_string (Kd.C_below HR1.out HB.out) (k : Int) (by omega) (by omega)
        subst eb
        rw [if_pos (Or.inr hk2), if_neg (fun h => Nat.lt_irrefl _ h.1)] at hd
        cases gap
        ·skip
         have HC := Lib.hid hd
         clear hd
         obtain ⟨⟨hn1, hbn, hf2⟩, hd⟩ := dif_gap HC.out
         clear HC
         simp only [gapE, Bool.false_eq_true, if_false] at hn1 hf2 hd
         obtain ⟨out1, hout1⟩ : ∃ out1, out ++ [(⟨(l0.length : Int), 0, []⟩ : S52)] = out1 := ⟨_, rfl⟩
         rw [hout1] at hn1 hf2 hd
         have HN := Lib.hid hn1
         have HBND := Lib.hid hbn
         have HF2 := Lib.hid hf2
         have HD := Lib.hid hd
         clear hf2 hd hbn
         obtain ⟨jn, hjn⟩ : ∃ jn : Int, wrap64 ((out1.length : Int) - 1) = jn := ⟨_, rfl⟩
         have hjv : jn = (out1.length : Int) - 1 := by rw [← hjn]; exact w64 _ (by have h1 := HBND.out; have h2 : out1.length = out.length + 1 := by { rw [← hout1]; simp }; omega)
         have hjw : IntKind.i64.wrap ((out1.length : Int) - 1) = jn := (i64_w _).trans hjn
         have n0 := eq_true (show (0 : Int) ≤ jn from by omega)
         have n1 := eq_true (show jn < (out1.length : Int) from by omega)
         have n2 : jn.toNat = out1.length - 1 := by omega
         clear hjv
         clear hn1
         go_wp2_with fail
         go_quiet (fail)
         have HS1 := Lib.hid (Kd.S_drewN HS.out nq)
         have HT1 := Lib.hid (Kd.S_drewN HT.out nq)
         have HB1 := Lib.hid (pw_below_drewN HB.out nq)
         generalize wr.drewN nq = wq at HS1 HT1 HB1 ⊢
         clear HS HT HB
         (try clear ha)
         (try clear hbb)
         go_wp2_with (first
          | ((with_reducible refine gate_builtin (b := .append) (xs := #[.tmp 60, .tmp 63]) rfl ?_); at_builtin; refine Kd.S_append k52 (w0 := w) w.heap.size rfl (.tmp 60) (.tmp 63) 29 52 (.agg #[(.int .i64 0), (.int .i64 0), (.slice none 0 0)]) 40 rfl Tryd.underlying29 info52 rfl (by decide) (by omega) u7 out ⟨(l0.length : Int), 0, []⟩ [.int .i64 (l0.length : Int), .int .i64 0, .slice none 0 0] (fun _ => True) (fun _ => False) rfl rfl (k52_mkM _ _ _ _ (Kd.R_nil _ _ _ _ _)) (fun _ hk => hk.elim) (fun _ _ => trivial) (Kd.S_mono HS1.out (fun _ _ => ⟨trivial, fun h => h⟩)) HB1.out HB1.out.size (by have := HBND.out; omega) ?_; intro v79 w79 ho hb hg hat; rw [hout1] at ho; have HTW := Lib.hid (rows_grown 52 HT1.out hg (se_typed HS1.out) (by decide)); have HBW := Lib.hid hb; have HSW0 := ho; obtain ⟨g, cap, rfl, -, -, -, -⟩ := Kd.S_form ho HN.out; have HSW := Lib.hid HSW0; clear ho HSW0 hb hg hat))
         have hd := HD.out
         rw [if_neg (fun h => Nat.lt_irrefl _ h.1)] at hd
         clear HD
         have HD := Lib.hid hd
         clear hd
         go_quiet (fail)
         have HSZ := Lib.hid (Kd.S_drewN HSW.out nq)
         have HTZ := Lib.hid (Kd.S_drewN HTW.out nq)
         have HBZ := Lib.hid (pw_below_drewN HBW.out nq)
         generalize w79.drewN nq = wz at HSZ HTZ HBZ ⊢
         clear HSW HTW HBW
         have HSD := Lib.hid (Kd.S_drew HSZ.out)
         have HTD := Lib.hid (Kd.S_drew HTZ.out)
         have HBD := Lib.hid (below_drew HBZ.out)
         obtain ⟨oki, v2, hR, hlt, hH⟩ := last_get HSD.out HN.out
         obtain ⟨A2, c2, rfl, -, -⟩ := Kd.R_reads hR
         have HH := Lib.hid hH
         obtain ⟨z0, z1, z2, zf⟩ := last_cells hH HN.out
         have HR := Lib.hid hR
         have HLT := Lib.hid hlt
         clear hR hlt hH zf z0 z1
         obtain ⟨adb', eb', sb⟩ := Kd.at_string (Kd.C_below HR1.out HBD.out) (k : Int) (by omega) (by omega)
         obtain rfl := Option.some.inj eb'
         rw [Int.toNat_natCast] at sb
         clear eb'
         obtain ⟨cz, hz⟩ := se_typed HSD.out g rfl
         have HZG := Lib.hid hz
         clear hz
         go_wp2_with fail
         refine start_ (n := 14) (S := fun w' => w'.cell? ⟨g, (out1.length - 1) * 3 + 2, none⟩ = some (.slice A2 (rd_T52 out1 ((out1.length : Int) - 1)).f2.length c2) ∧ w'.cell? (adb.add k) = some (.string (rdOf ByteArray.empty l1 (k : Int)))) (ds := [13]) #[false, false, false, false, false, false, false, false, false, false, false, false, false, false] (by kernel_rfl) rfl rfl ⟨z2, sb⟩ (fun hHeld => ?_)
         generalize wz.drew = wd at HSD HTD HBD HH HR HLT HZG z2 sb hHeld ⊢
         refine pure_ (i := 0) (N := some 108) (v := ?_) (a' := ?_) #[true, false, false, false, false, false, false, false, false, false, false, false, false, false] rfl rfl (by kernel_rfl) (fun _ _ _ h => h) (Or.inl ⟨by rfl, ?_⟩) ?_ ?_
         rotate_left
         ·intro w'
          go_simp
          with_reducible rfl
         rotate_left
         ·simp only [Act.put, List.setIfInBounds_toArray, List.set_cons_zero, List.set_cons_succ, i64_w, i32_w]
          rfl
         refine pure_ (i := 1) (N := some 109) (v := ?_) (a' := ?_) #[true, true, false, false, false, false, false, false, false, false, false, false, false, false] rfl rfl (by kernel_rfl) (fun _ _ _ h => h) (Or.inl ⟨by rfl, ?_⟩) ?_ ?_
         rotate_left
         ·intro w'
          go_simp
          with_reducible rfl
         rotate_left
         ·simp only [Act.put, List.setIfInBounds_toArray, List.set_cons_zero, List.set_cons_succ, i64_w, i32_w]
          rfl
         refine pure_ (i := 2) (N := some 110) (v := ?_) (a' := ?_) #[true, true, true, false, false, false, false, false, false, false, false, false, false, false] rfl rfl (by kernel_rfl) (fun _ _ _ h => h) (Or.inl ⟨by rfl, ?_⟩) ?_ ?_
         rotate_left
         ·intro w'
          go_simp
          with_reducible rfl
         rotate_left
         ·simp only [Act.put, List.setIfInBounds_toArray, List.set_cons_zero, List.set_cons_succ, i64_w, i32_w]
          rfl
         refine pure_ (i := 3) (N := some 111) (v := ?_) (a' := ?_) #[true, true, true, true, false, false, false, false, false, false, false, false, false, false] rfl rfl (by kernel_rfl) (fun _ _ _ h => h) (Or.inl ⟨by rfl, ?_⟩) ?_ ?_
         rotate_left
         ·intro w'
          go_simp
          with_reducible rfl
         rotate_left
         ·simp only [Act.put, List.setIfInBounds_toArray, List.set_cons_zero, List.set_cons_succ, i64_w, i32_w]
          rfl
         refine pure_ (i := 5) (N := some 113) (v := ?_) (a' := ?_) #[true, true, true, true, false, true, false, false, false, false, false, false, false, false] rfl rfl (by kernel_rfl) (fun _ _ _ h => h) (Or.inl ⟨by rfl, ?_⟩) ?_ ?_
         rotate_left
         ·intro w'
          go_simp
          with_reducible rfl
         rotate_left
         ·simp only [Act.put, List.setIfInBounds_toArray, List.set_cons_zero, List.set_cons_succ, i64_w, i32_w]
          rfl
         refine pure_ (i := 6) (N := some 114) (v := ?_) (a' := ?_) #[true, true, true, true, false, true, true, false, false, false, false, false, false, false] rfl rfl (by kernel_rfl) (fun _ _ _ h => h) (Or.inl ⟨by rfl, ?_⟩) ?_ ?_
         rotate_left
         ·intro w'
          go_simp
          with_reducible rfl
         rotate_left
         ·simp only [Act.put, List.setIfInBounds_toArray, List.set_cons_zero, List.set_cons_succ, i64_w, i32_w]
          rfl
         refine pure_ (i := 7) (N := some 115) (v := ?_) (a' := ?_) #[true, true, true, true, false, true, true, true, false, false, false, false, false, false] rfl rfl (by kernel_rfl) (fun _ _ _ h => h) (Or.inl ⟨by rfl, ?_⟩) ?_ ?_
         rotate_left
         ·intro w'
          go_simp
          with_reducible rfl
         rotate_left
         ·simp only [Act.put, List.setIfInBounds_toArray, List.set_cons_zero, List.set_cons_succ, i64_w, i32_w]
          rfl
         refine take_ (i := 4) (N := some 112) (v := ?_) (a' := ?_) #[true, true, true, true, true, true, true, true, false, false, false, false, false, false] rfl rfl (by kernel_rfl) (fun _ _ _ h => h) (Or.inl ⟨by rfl, ?_⟩) hHeld ?_ ?_
         rotate_left
         ·rintro w' ⟨s0, s1⟩
          go_simp
          with_reducible rfl
         rotate_left
         ·simp only [Act.put, List.setIfInBounds_toArray, List.set_cons_zero, List.set_cons_succ, i64_w, i32_w]
          rfl
         refine take_ (i := 8) (N := some 116) (v := ?_) (a' := ?_) #[true, true, true, true, true, true, true, true, true, false, false, false, false, false] rfl rfl (by kernel_rfl) (fun _ _ _ h => h) (Or.inl ⟨by rfl, ?_⟩) hHeld ?_ ?_
         rotate_left
         ·rintro w' ⟨s0, s1⟩
          go_simp
          with_reducible rfl
         rotate_left
         ·simp only [Act.put, List.setIfInBounds_toArray, List.set_cons_zero, List.set_cons_succ, i64_w, i32_w]
          rfl
         refine one_ (i := 9) (N := some 117) #[true, true, true, true, true, true, true, true, true, true, false, false, false, false] rfl rfl (by kernel_rfl) (by decide) (fun K hK => ?_)
         refine value_ (w1 := ?_) (v := ?_) (by rfl) rfl ?_ ?_
         rotate_left 2
         ·go_simp
          constructor
          ·rfl
          ·rfl
         refine hK.out _ _ ⟨pw_cell_below (below_alloc (Below.refl wd.heap.size wd) _) z2, pw_cell_below (below_alloc (Below.refl wd.heap.size wd) _) sb⟩ (fun hHeld => ?_)
         clear hK K
         refine norm_ (a' := ?_) ?_ ?_
         rotate_left
         ·show Act.put _ (some 117) _ = _
          simp only [Act.put, List.setIfInBounds_toArray, List.set_cons_zero, List.set_cons_succ, i64_w, i32_w]
          rfl
         refine one_ (i := 10) (N := some 118) #[true, true, true, true, true, true, true, true, true, true, true, false, false, false] rfl rfl (by kernel_rfl) (by decide) (fun K hK => ?_)
         refine Kd.R_append_step Kd.string (w0 := w) w.heap.size (by rfl) (.tmp 112) (.tmp 117) 28 9 (.string ⟨#[]⟩) 16 (by rfl) Tryd.underlying28 info9 rfl (by decide) (by omega) (.slice A2 (rd_T52 out1 ((out1.length : Int) - 1)).f2.length c2) (rd_T52 out1 ((out1.length : Int) - 1)).f2 (rdOf ByteArray.empty l1 (k : Int)) [.string (rdOf ByteArray.empty l1 (k : Int))] (fun k => oki k ∨ wd.heap.size ≤ k) (fun _ => False) (by rfl) (by rfl) rfl (fun _ hk => hk.elim) (fun k hk => .inr hk) (Kd.R_mono HR.out (fun k hk => .inl hk)) HBD.out HBD.out.size (by have h1 := HF2.out; unfold lastE at h1; omega) ?_
         intro v3 w3 ho hb hg hat
         have HRV0 := ho
         obtain ⟨A3, c3, rfl, -, -⟩ := Kd.R_reads ho
         have HRV := Lib.hid HRV0
         have HGV := Lib.hid hg
         have HBV := Lib.hid hb
         clear ho hb hg hat HRV0
         have HNE : Hid (some g ≠ (Value.slice A2 (rd_T52 out1 ((out1.length : Int) - 1)).f2.length c2).ownBlock) := Lib.hid (own_ne9 HR.out HZG.out)
         obtain ⟨-, -, e4, q4⟩ := last_cells (Kd.H_grown HH.out HGV.out (fun k hk => HR.out.1 k hk)) HN.out
         have q5 := q4 2
         clear q4
         obtain ⟨adb3, eb3, sb3⟩ := Kd.at_string (Kd.C_below HR1.out HBV.out) (k : Int) (by omega) (by omega)
         obtain rfl := Option.some.inj eb3
         clear eb3
         rw [Int.toNat_natCast] at sb3
         refine hK.out _ _ ⟨e4, sb3⟩ (fun hHeld => ?_)
         clear hK K
         refine norm_ (a' := ?_) ?_ ?_
         rotate_left
         ·show Act.put _ (some 118) _ = _
          simp only [Act.put, List.setIfInBounds_toArray, List.set_cons_zero, List.set_cons_succ, i64_w, i32_w]
          rfl
         refine pure_ (i := 11) (N := some 119) (v := ?_) (a' := ?_) #[true, true, true, true, true, true, true, true, true, true, true, true, false, false] rfl rfl (by kernel_rfl) (fun _ _ _ h => h) (Or.inl ⟨by rfl, ?_⟩) ?_ ?_
         rotate_left
         ·intro w'
          go_simp
          with_reducible rfl
         rotate_left
         ·simp only [Act.put, List.setIfInBounds_toArray, List.set_cons_zero, List.set_cons_succ, i64_w, i32_w]
          rfl
         refine pure_ (i := 12) (N := some 120) (v := ?_) (a' := ?_) #[true, true, true, true, true, true, true, true, true, true, true, true, true, false] rfl rfl (by kernel_rfl) (fun _ _ _ h => h) (Or.inl ⟨by rfl, ?_⟩) ?_ ?_
         rotate_left
         ·intro w'
          go_simp
          with_reducible rfl
         rotate_left
         ·simp only [Act.put, List.setIfInBounds_toArray, List.set_cons_zero, List.set_cons_succ, i64_w, i32_w]
          rfl
         refine last_ (i := 13) (N := none) #[true, true, true, true, true, true, true, true, true, true, true, true, true, true] rfl rfl (by kernel_rfl) (by decide) (fun K hK => ?_)
         refine skip_ (w1 := ?_) (by rfl) rfl ?_ ?_
         rotate_left
         ·go_simp
          rfl
         refine hK.out _ _ ?_
         clear hK K
         refine done_ (by kernel_rfl) ?_
         have HFIN := Lib.hid (last_add (W1 := w3) HN.out HLT.out HGV.out HR.out HRV.out HH.out (blk_lt HZG.out))
         have HT3 := Lib.hid (rows_grown 9 HTD.out HGV.out (fun k hk => by
          obtain ⟨inner, ho⟩ := Kd.R_own HR.out
          exact own_typed ho k hk) (by decide))
         go_wp2_with fail
         go_roundg k1
         case measure => have := HK1.out; omega
         case rel => exact ⟨stepAdd out1 (rdOf ByteArray.empty l1 (k : Int)), true, l0.length, k + 1, rfl, rfl, by first | go_num | (rw [HVK.out]; rfl) | (simp only [HVK.out]; rfl), by omega, by omega, Lib.hid HD.out, Lib.hid (by have := HK1.out; omega), Lib.hid (by have h := HFIN.out; rw [List.length_append, List.length_singleton] at h; exact h), Lib.hid (Kd.S_set HT3.out (blk_grown HZG.out HGV.out HNE.out) (by decide) _ _), Lib.hid (below_set HBV.out (Kd.S_base HSD.out g rfl))⟩
        ·skip
         have HC := Lib.hid hd
         clear hd
         obtain ⟨⟨hn1, hbn, hf2⟩, hd⟩ := dif_gap HC.out
         clear HC
         simp only [gapE, if_true] at hn1 hf2 hd
         obtain ⟨g, cap, rfl, -, -, -, -⟩ := Kd.S_form HS.out hn1
         have HN := Lib.hid hn1
         have HF2 := Lib.hid hf2
         have HD := Lib.hid hd
         clear hf2 hd
         obtain ⟨out1, hout1⟩ : ∃ out1, out = out1 := ⟨_, rfl⟩
         subst hout1
         obtain ⟨jn, hjn⟩ : ∃ jn : Int, wrap64 ((out.length : Int) - 1) = jn := ⟨_, rfl⟩
         have hjv : jn = (out.length : Int) - 1 := by rw [← hjn]; exact w64 _ (by omega)
         have hjw : IntKind.i64.wrap ((out.length : Int) - 1) = jn := (i64_w _).trans hjn
         have n0 := eq_true (show (0 : Int) ≤ jn from by omega)
         have n1 := eq_true (show jn < (out.length : Int) from by omega)
         have n2 : jn.toNat = out.length - 1 := by omega
         clear hjv
         clear hn1
         go_wp2_with fail
         go_quiet (fail)
         have HS1 := Lib.hid (Kd.S_drewN HS.out nq)
         have HT1 := Lib.hid (Kd.S_drewN HT.out nq)
         have HB1 := Lib.hid (pw_below_drewN HB.out nq)
         generalize wr.drewN nq = wq at HS1 HT1 HB1 ⊢
         clear HS HT HB
         (try clear ha)
         (try clear hbb)
         have HSW := HS1
         have HTW := HT1
         have HBW := HB1
         clear HS1 HT1 HB1
         go_wp2_with fail
         have hd := HD.out
         rw [if_neg (fun h => Nat.lt_irrefl _ h.1)] at hd
         clear HD
         have HD := Lib.hid hd
         clear hd
         go_quiet (fail)
         have HSZ := Lib.hid (Kd.S_drewN HSW.out nq)
         have HTZ := Lib.hid (Kd.S_drewN HTW.out nq)
         have HBZ := Lib.hid (pw_below_drewN HBW.out nq)
         generalize wq.drewN nq = wz at HSZ HTZ HBZ ⊢
         clear HSW HTW HBW
         have HSD := Lib.hid (Kd.S_drew HSZ.out)
         have HTD := Lib.hid (Kd.S_drew HTZ.out)
         have HBD := Lib.hid (below_drew HBZ.out)
         obtain ⟨oki, v2, hR, hlt, hH⟩ := last_get HSD.out HN.out
         obtain ⟨A2, c2, rfl, -, -⟩ := Kd.R_reads hR
         have HH := Lib.hid hH
         obtain ⟨z0, z1, z2, zf⟩ := last_cells hH HN.out
         have HR := Lib.hid hR
         have HLT := Lib.hid hlt
         clear hR hlt hH zf z0 z1
         obtain ⟨adb', eb', sb⟩ := Kd.at_string (Kd.C_below HR1.out HBD.out) (k : Int) (by omega) (by omega)
         obtain rfl := Option.some.inj eb'
         rw [Int.toNat_natCast] at sb
         clear eb'
         obtain ⟨cz, hz⟩ := se_typed HSD.out g rfl
         have HZG := Lib.hid hz
         clear hz
         go_wp2_with fail
         refine start_ (n := 14) (S := fun w' => w'.cell? ⟨g, (out.length - 1) * 3 + 2, none⟩ = some (.slice A2 (rd_T52 out ((out.length : Int) - 1)).f2.length c2) ∧ w'.cell? (adb.add k) = some (.string (rdOf ByteArray.empty l1 (k : Int)))) (ds := [13]) #[false, false, false, false, false, false, false, false, false, false, false, false, false, false] (by kernel_rfl) rfl rfl ⟨z2, sb⟩ (fun hHeld => ?_)
         generalize wz.drew = wd at HSD HTD HBD HH HR HLT HZG z2 sb hHeld ⊢
         refine pure_ (i := 0) (N := some 108) (v := ?_) (a' := ?_) #[true, false, false, false, false, false, false, false, false, false, false, false, false, false] rfl rfl (by kernel_rfl) (fun _ _ _ h => h) (Or.inl ⟨by rfl, ?_⟩) ?_ ?_
         rotate_left
         ·intro w'
          go_simp
          with_reducible rfl
         rotate_left
         ·simp only [Act.put, List.setIfInBounds_toArray, List.set_cons_zero, List.set_cons_succ, i64_w, i32_w]
          rfl
         refine pure_ (i := 1) (N := some 109) (v := ?_) (a' := ?_) #[true, true, false, false, false, false, false, false, false, false, false, false, false, false] rfl rfl (by kernel_rfl) (fun _ _ _ h => h) (Or.inl ⟨by rfl, ?_⟩) ?_ ?_
         rotate_left
         ·intro w'
          go_simp
          with_reducible rfl
         rotate_left
         ·simp only [Act.put, List.setIfInBounds_toArray, List.set_cons_zero, List.set_cons_succ, i64_w, i32_w]
          rfl
         refine pure_ (i := 2) (N := some 110) (v := ?_) (a' := ?_) #[true, true, true, false, false, false, false, false, false, false, false, false, false, false] rfl rfl (by kernel_rfl) (fun _ _ _ h => h) (Or.inl ⟨by rfl, ?_⟩) ?_ ?_
         rotate_left
         ·intro w'
          go_simp
          with_reducible rfl
         rotate_left
         ·simp only [Act.put, List.setIfInBounds_toArray, List.set_cons_zero, List.set_cons_succ, i64_w, i32_w]
          rfl
         refine pure_ (i := 3) (N := some 111) (v := ?_) (a' := ?_) #[true, true, true, true, false, false, false, false, false, false, false, false, false, false] rfl rfl (by kernel_rfl) (fun _ _ _ h => h) (Or.inl ⟨by rfl, ?_⟩) ?_ ?_
         rotate_left
         ·intro w'
          go_simp
          with_reducible rfl
         rotate_left
         ·simp only [Act.put, List.setIfInBounds_toArray, List.set_cons_zero, List.set_cons_succ, i64_w, i32_w]
          rfl
         refine pure_ (i := 5) (N := some 113) (v := ?_) (a' := ?_) #[true, true, true, true, false, true, false, false, false, false, false, false, false, false] rfl rfl (by kernel_rfl) (fun _ _ _ h => h) (Or.inl ⟨by rfl, ?_⟩) ?_ ?_
         rotate_left
         ·intro w'
          go_simp
          with_reducible rfl
         rotate_left
         ·simp only [Act.put, List.setIfInBounds_toArray, List.set_cons_zero, List.set_cons_succ, i64_w, i32_w]
          rfl
         refine pure_ (i := 6) (N := some 114) (v := ?_) (a' := ?_) #[true, true, true, true, false, true, true, false, false, false, false, false, false, false] rfl rfl (by kernel_rfl) (fun _ _ _ h => h) (Or.inl ⟨by rfl, ?_⟩) ?_ ?_
         rotate_left
         ·intro w'
          go_simp
          with_reducible rfl
         rotate_left
         ·simp only [Act.put, List.setIfInBounds_toArray, List.set_cons_zero, List.set_cons_succ, i64_w, i32_w]
          rfl
         refine pure_ (i := 7) (N := some 115) (v := ?_) (a' := ?_) #[true, true, true, true, false, true, true, true, false, false, false, false, false, false] rfl rfl (by kernel_rfl) (fun _ _ _ h => h) (Or.inl ⟨by rfl, ?_⟩) ?_ ?_
         rotate_left
         ·intro w'
          go_simp
          with_reducible rfl
         rotate_left
         ·simp only [Act.put, List.setIfInBounds_toArray, List.set_cons_zero, List.set_cons_succ, i64_w, i32_w]
          rfl
         refine take_ (i := 4) (N := some 112) (v := ?_) (a' := ?_) #[true, true, true, true, true, true, true, true, false, false, false, false, false, false] rfl rfl (by kernel_rfl) (fun _ _ _ h => h) (Or.inl ⟨by rfl, ?_⟩) hHeld ?_ ?_
         rotate_left
         ·rintro w' ⟨s0, s1⟩
          go_simp
          with_reducible rfl
         rotate_left
         ·simp only [Act.put, List.setIfInBounds_toArray, List.set_cons_zero, List.set_cons_succ, i64_w, i32_w]
          rfl
         refine take_ (i := 8) (N := some 116) (v := ?_) (a' := ?_) #[true, true, true, true, true, true, true, true, true, false, false, false, false, false] rfl rfl (by kernel_rfl) (fun _ _ _ h => h) (Or.inl ⟨by rfl, ?_⟩) hHeld ?_ ?_
         rotate_left
         ·rintro w' ⟨s0, s1⟩
          go_simp
          with_reducible rfl
         rotate_left
         ·simp only [Act.put, List.setIfInBounds_toArray, List.set_cons_zero, List.set_cons_succ, i64_w, i32_w]
          rfl
         refine one_ (i := 9) (N := some 117) #[true, true, true, true, true, true, true, true, true, true, false, false, false, false] rfl rfl (by kernel_rfl) (by decide) (fun K hK => ?_)
         refine value_ (w1 := ?_) (v := ?_) (by rfl) rfl ?_ ?_
         rotate_left 2
         ·go_simp
          constructor
          ·rfl
          ·rfl
         refine hK.out _ _ ⟨pw_cell_below (below_alloc (Below.refl wd.heap.size wd) _) z2, pw_cell_below (below_alloc (Below.refl wd.heap.size wd) _) sb⟩ (fun hHeld => ?_)
         clear hK K
         refine norm_ (a' := ?_) ?_ ?_
         rotate_left
         ·show Act.put _ (some 117) _ = _
          simp only [Act.put, List.setIfInBounds_toArray, List.set_cons_zero, List.set_cons_succ, i64_w, i32_w]
          rfl
         refine one_ (i := 10) (N := some 118) #[true, true, true, true, true, true, true, true, true, true, true, false, false, false] rfl rfl (by kernel_rfl) (by decide) (fun K hK => ?_)
         refine Kd.R_append_step Kd.string (w0 := w) w.heap.size (by rfl) (.tmp 112) (.tmp 117) 28 9 (.string ⟨#[]⟩) 16 (by rfl) Tryd.underlying28 info9 rfl (by decide) (by omega) (.slice A2 (rd_T52 out ((out.length : Int) - 1)).f2.length c2) (rd_T52 out ((out.length : Int) - 1)).f2 (rdOf ByteArray.empty l1 (k : Int)) [.string (rdOf ByteArray.empty l1 (k : Int))] (fun k => oki k ∨ wd.heap.size ≤ k) (fun _ => False) (by rfl) (by rfl) rfl (fun _ hk => hk.elim) (fun k hk => .inr hk) (Kd.R_mono HR.out (fun k hk => .inl hk)) HBD.out HBD.out.size (by have h1 := HF2.out; unfold lastE at h1; omega) ?_
         intro v3 w3 ho hb hg hat
         have HRV0 := ho
         obtain ⟨A3, c3, rfl, -, -⟩ := Kd.R_reads ho
         have HRV := Lib.hid HRV0
         have HGV := Lib.hid hg
         have HBV := Lib.hid hb
         clear ho hb hg hat HRV0
         have HNE : Hid (some g ≠ (Value.slice A2 (rd_T52 out ((out.length : Int) - 1)).f2.length c2).ownBlock) := Lib.hid (own_ne9 HR.out HZG.out)
         obtain ⟨-, -, e4, q4⟩ := last_cells (Kd.H_grown HH.out HGV.out (fun k hk => HR.out.1 k hk)) HN.out
         have q5 := q4 2
         clear q4
         obtain ⟨adb3, eb3, sb3⟩ := Kd.at_string (Kd.C_below HR1.out HBV.out) (k : Int) (by omega) (by omega)
         obtain rfl := Option.some.inj eb3
         clear eb3
         rw [Int.toNat_natCast] at sb3
         refine hK.out _ _ ⟨e4, sb3⟩ (fun hHeld => ?_)
         clear hK K
         refine norm_ (a' := ?_) ?_ ?_
         rotate_left
         ·show Act.put _ (some 118) _ = _
          simp only [Act.put, List.setIfInBounds_toArray, List.set_cons_zero, List.set_cons_succ, i64_w, i32_w]
          rfl
         refine pure_ (i := 11) (N := some 119) (v := ?_) (a' := ?_) #[true, true, true, true, true, true, true, true, true, true, true, true, false, false] rfl rfl (by kernel_rfl) (fun _ _ _ h => h) (Or.inl ⟨by rfl, ?_⟩) ?_ ?_
         rotate_left
         ·intro w'
          go_simp
          with_reducible rfl
         rotate_left
         ·simp only [Act.put, List.setIfInBounds_toArray, List.set_cons_zero, List.set_cons_succ, i64_w, i32_w]
          rfl
         refine pure_ (i := 12) (N := some 120) (v := ?_) (a' := ?_) #[true, true, true, true, true, true, true, true, true, true, true, true, true, false] rfl rfl (by kernel_rfl) (fun _ _ _ h => h) (Or.inl ⟨by rfl, ?_⟩) ?_ ?_
         rotate_left
         ·intro w'
          go_simp
          with_reducible rfl
         rotate_left
         ·simp only [Act.put, List.setIfInBounds_toArray, List.set_cons_zero, List.set_cons_succ, i64_w, i32_w]
          rfl
         refine last_ (i := 13) (N := none) #[true, true, true, true, true, true, true, true, true, true, true, true, true, true] rfl rfl (by kernel_rfl) (by decide) (fun K hK => ?_)
         refine skip_ (w1 := ?_) (by rfl) rfl ?_ ?_
         rotate_left
         ·go_simp
          rfl
         refine hK.out _ _ ?_
         clear hK K
         refine done_ (by kernel_rfl) ?_
         have HFIN := Lib.hid (last_add (W1 := w3) HN.out HLT.out HGV.out HR.out HRV.out HH.out (blk_lt HZG.out))
         have HT3 := Lib.hid (rows_grown 9 HTD.out HGV.out (fun k hk => by
          obtain ⟨inner, ho⟩ := Kd.R_own HR.out
          exact own_typed ho k hk) (by decide))
         go_wp2_with fail
         go_roundg k1
         case measure => have := HK1.out; omega
         case rel => exact ⟨stepAdd out (rdOf ByteArray.empty l1 (k : Int)), true, l0.length, k + 1, rfl, rfl, by first | go_num | (rw [HVK.out]; rfl) | (simp only [HVK.out]; rfl), by omega, by omega, Lib.hid HD.out, Lib.hid (by have := HK1.out; omega), Lib.hid (by have h := HFIN.out; rw [List.length_append, List.length_singleton] at h; exact h), Lib.hid (Kd.S_set HT3.out (blk_grown HZG.out HGV.out HNE.out) (by decide) _ _), Lib.hid (below_set HBV.out (Kd.S_base HSD.out g rfl))⟩
       ·obtain rfl : k = l1.length := by omega
        have k0 := decide_eq_false (show ¬ (l1.length : Int) < (l1.length : Int) from by omega)
        rw [if_neg (fun h => h.elim (Nat.lt_irrefl _) (Nat.lt_irrefl _))] at hd
        obtain rfl := Option.some.inj hd
        go_wp2_with fail
        go_ret2
        exact ⟨_, rfl, HS.out, HB.out⟩
   ·rw [if_neg hsh] at h
    exact absurd h (by simp)
  ·rw [if_neg hz1] at h
   have b0 : (e1 == 0) = false := beq_eq_false_iff_ne.mpr hz1
   have b1 : (e1 != 0) = true := bne_iff_ne.mpr hz1
   clear hz1
   simp only [Option.some.injEq, Prod.mk.injEq] at h
   obtain ⟨rfl, rfl⟩ := h
   go_wp2_with fail
   go_ret2
   exact ⟨_, rfl, Kd.S_nil _ _ _ _ _, HB2.out⟩
 ·rw [if_neg hz0] at h
  have a0 : (e0 == 0) = false := beq_eq_false_iff_ne.mpr hz0
  have a1 : (e0 != 0) = true := bne_iff_ne.mpr hz0
  clear hz0
  simp only [Option.some.injEq, Prod.mk.injEq] at h
  obtain ⟨rfl, rfl⟩ := h
  go_wp2_with fail
  refine (frame_lineError.calls K A0 c0 l0 e0 w HR0.out hc0 E0.out).mono ?_
  rintro e w1 ⟨rfl, hd1⟩
  have HB1 := Lib.hid hd1.below
  clear hd1
  go_wp2_with fail
  go_ret2
  exact ⟨_, rfl, Kd.S_nil _ _ _ _ _, HB1.out⟩
end Go.Proofs.YtfpopmojlmpopaaDoor.H

end
section
namespace Go.Proofs.YtfpopmojlmpopaaDoor.G
open Go.RowKit Go.Proofs.YtfpopmojlmpopaaDoorW.PrintWords Go.Proofs.YtfpopmojlmpopaaDoorW.PrintLast Go.Proofs.YtfpopmojlmpopaaDoorW.PrintMore
attribute [local go_sem] max2_int min2_int max_two min_two max_three min_three max_four min_four
set_option linter.unusedVariables false
set_option linter.unusedSimpArgs false
mutual
def frame_Apply.j0 : Nat → List ByteArray → List (S52) → Bool → Option (List ByteArray × Int)
 | 0, _, _, _ => none
 | k + 1, x0, x1, x18 => if x18 = true then (some (([] : List ByteArray), 1)) else (if (x1.length : Int) > 0 then (if 0 ≤ (wrap64 ((x1.length : Int) - 1)) then (if (wrap64 ((x1.length : Int) - 1)) < (x1.length : Int) then (frame_Apply.j1 k x0 x1 (decide (((rd_T52 x1 (wrap64 ((x1.length : Int) - 1))).f0) > (wrap64 ((x0.length : Int) - ((rd_T52 x1 (wrap64 ((x1.length : Int) - 1))).f1)))))) else (none)) else (none)) else (frame_Apply.j1 k x0 x1 false))
def frame_Apply.j1 : Nat → List ByteArray → List (S52) → Bool → Option (List ByteArray × Int)
 | 0, _, _, _ => none
 | k + 1, x0, x1, x40 => if x40 = true then (some (([] : List ByteArray), 5)) else (frame_Apply.l0 k x0 ([] : List ByteArray) 0 x1 (x1.length : Int) 0)
def frame_Apply.l0 : Nat → List ByteArray → List ByteArray → Int → List (S52) → Int → Int → Option (List ByteArray × Int)
 | 0, _, _, _, _, _, _ => none
 | k + 1, x0, x7, x8, x41, x42, x43 => if x43 < x42 then (if 0 ≤ x43 then (if x43 < (x41.length : Int) then (if 0 ≤ x8 then (if x8 ≤ ((rd_T52 x41 x43).f0) then (if ((rd_T52 x41 x43).f0) ≤ (x0.length : Int) then (if x7.length + ((x0.take (((rd_T52 x41 x43).f0) : Int).toNat).drop (x8 : Int).toNat).length < 8796093022208 then ((some (x7 ++ ((x0.take (((rd_T52 x41 x43).f0) : Int).toNat).drop (x8 : Int).toNat) : List ByteArray)).bind fun y173 => (if y173.length + ((rd_T52 x41 x43).f2).length < 8796093022208 then (frame_Apply.l0 k x0 (y173 ++ ((rd_T52 x41 x43).f2)) (wrap64 (((rd_T52 x41 x43).f0) + ((rd_T52 x41 x43).f1))) x41 x42 (wrap64 (x43 + 1))) else (none))) else (none)) else (none)) else (none)) else (none)) else (none)) else (none)) else (if 0 ≤ x8 then (if x8 ≤ (x0.length : Int) then (if x7.length + (x0.drop (x8 : Int).toNat).length < 8796093022208 then ((some (x7 ++ (x0.drop (x8 : Int).toNat) : List ByteArray)).bind fun y180 => (if (y180.length : Int) > 4096 then (some (([] : List ByteArray), 6)) else (some (y180, 0)))) else (none)) else (none)) else (none))
end
def frame_Apply.f (k : Nat) (l0 : List ByteArray) (l1 : List (S52)) : Option (List ByteArray × Int) := (frame_lineError.f k l0).bind fun t166 => (if t166 = 0 then ((frame_possible.f k l1).bind fun t167 => (frame_Apply.j0 k l0 l1 (!t167))) else (frame_Apply.j0 k l0 l1 true))
theorem frame_Apply.mono_l : ∀ k, (∀ y0 y1 y2, LeO (frame_Apply.j0 k y0 y1 y2) (frame_Apply.j0 (k + 1) y0 y1 y2)) ∧ (∀ y0 y1 y2, LeO (frame_Apply.j1 k y0 y1 y2) (frame_Apply.j1 (k + 1) y0 y1 y2)) ∧ (∀ y0 y1 y2 y3 y4 y5, LeO (frame_Apply.l0 k y0 y1 y2 y3 y4 y5) (frame_Apply.l0 (k + 1) y0 y1 y2 y3 y4 y5))
 | 0 => ⟨fun _ _ _ r h => by simp [frame_Apply.j0] at h, fun _ _ _ r h => by simp [frame_Apply.j1] at h, fun _ _ _ _ _ _ r h => by simp [frame_Apply.l0] at h⟩
 | k + 1 => by
  obtain ⟨ih0, ih1, ih2⟩ := frame_Apply.mono_l k
  refine ⟨?_, ?_, ?_⟩
  ·intro y0 y1 y2
   unfold frame_Apply.j0
   repeat' first
   | (with_reducible exact ih0 _ _ _)
   | (with_reducible exact ih1 _ _ _)
   | (with_reducible exact ih2 _ _ _ _ _ _)
   | (with_reducible exact frame_lineError.mono _ _)
   | (with_reducible exact frame_possible.mono _ _)
   | (with_reducible exact LeO.refl _)
   | (with_reducible exact LeO.none _)
   | (with_reducible refine LeO.ite ?_ ?_)
   | (with_reducible refine LeO.bind ?_ (fun _ => ?_))
   | exact ih0 _ _ _
   | exact ih1 _ _ _
   | exact ih2 _ _ _ _ _ _
   | exact frame_lineError.mono _ _
   | exact frame_possible.mono _ _
   | exact LeO.none _
   | refine LeO.ite ?_ ?_
   | refine LeO.bind ?_ (fun _ => ?_)
  ·intro y0 y1 y2
   unfold frame_Apply.j1
   repeat' first
   | (with_reducible exact ih0 _ _ _)
   | (with_reducible exact ih1 _ _ _)
   | (with_reducible exact ih2 _ _ _ _ _ _)
   | (with_reducible exact frame_lineError.mono _ _)
   | (with_reducible exact frame_possible.mono _ _)
   | (with_reducible exact LeO.refl _)
   | (with_reducible exact LeO.none _)
   | (with_reducible refine LeO.ite ?_ ?_)
   | (with_reducible refine LeO.bind ?_ (fun _ => ?_))
   | exact ih0 _ _ _
   | exact ih1 _ _ _
   | exact ih2 _ _ _ _ _ _
   | exact frame_lineError.mono _ _
   | exact frame_possible.mono _ _
   | exact LeO.none _
   | refine LeO.ite ?_ ?_
   | refine LeO.bind ?_ (fun _ => ?_)
  ·intro y0 y1 y2 y3 y4 y5
   unfold frame_Apply.l0
   repeat' first
   | (with_reducible exact ih0 _ _ _)
   | (with_reducible exact ih1 _ _ _)
   | (with_reducible exact ih2 _ _ _ _ _ _)
   | (with_reducible exact frame_lineError.mono _ _)
   | (with_reducible exact frame_possible.mono _ _)
   | (with_reducible exact LeO.refl _)
   | (with_reducible exact LeO.none _)
   | (with_reducible refine LeO.ite ?_ ?_)
   | (with_reducible refine LeO.bind ?_ (fun _ => ?_))
   | exact ih0 _ _ _
   | exact ih1 _ _ _
   | exact ih2 _ _ _ _ _ _
   | exact frame_lineError.mono _ _
   | exact frame_possible.mono _ _
   | exact LeO.none _
   | refine LeO.ite ?_ ?_
   | refine LeO.bind ?_ (fun _ => ?_)
theorem frame_Apply.mono : ∀ a0 a1 k, LeO (frame_Apply.f k a0 a1) (frame_Apply.f (k + 1) a0 a1) := by
 intro a0 a1 k
 obtain ⟨ih0, ih1, ih2⟩ := frame_Apply.mono_l k
 unfold frame_Apply.f
 repeat' first
   | (with_reducible exact ih0 _ _ _)
   | (with_reducible exact ih1 _ _ _)
   | (with_reducible exact ih2 _ _ _ _ _ _)
   | (with_reducible exact frame_lineError.mono _ _)
   | (with_reducible exact frame_possible.mono _ _)
   | (with_reducible exact LeO.refl _)
   | (with_reducible exact LeO.none _)
   | (with_reducible refine LeO.ite ?_ ?_)
   | (with_reducible refine LeO.bind ?_ (fun _ => ?_))
   | exact ih0 _ _ _
   | exact ih1 _ _ _
   | exact ih2 _ _ _ _ _ _
   | exact frame_lineError.mono _ _
   | exact frame_possible.mono _ _
   | exact LeO.none _
   | refine LeO.ite ?_ ?_
   | refine LeO.bind ?_ (fun _ => ?_)
def frame_Apply.T4 : Bool × List (List Nat × List Nat) := (true, [([], []), ([0], [0]), ([1], [1]), ([2], [2]), ([2], [2]), ([4, 2], [2, 4]), ([3, 5, 2], [2, 3, 5]), ([6, 2], [2, 6]), ([7, 2], [2, 7]), ([2], [2]), ([9, 2], [2, 9]), ([2], [2]), ([2], [2]), ([12, 2], [2, 12]), ([11, 13, 2], [2, 11, 13]), ([14, 2], [2, 14]), ([15, 2], [2, 15]), ([10, 16, 2], [2, 10, 16]), ([8, 17, 2], [2, 8, 17]), ([2, 18], [2, 18])])
def frame_Apply.B4 : List Nat := [0, 1, 3, 7, 7, 23, 63, 127, 255, 7, 519, 7, 7, 4103, 14343, 30727, 63495, 130567, 262143, 524287]
theorem frame_Apply.tab4 : rtab .any (opsOf Tryd.f17 4) = frame_Apply.T4 := by kernel_rfl
theorem frame_Apply.bits4 : waitsOk frame_Apply.T4.2 frame_Apply.B4 = true := by kernel_rfl
def frame_Apply.T11 : Bool × List (List Nat × List Nat) := (true, [([], []), ([], []), ([], []), ([], []), ([3], [3]), ([1, 2, 4], [1, 2, 4]), ([0, 5], [0, 5]), ([], []), ([7], [7]), ([6, 8, 6], [6, 8]), ([9, 9, 0, 1, 2, 3, 4, 5, 6, 7, 8, 9], [0, 9])])
def frame_Apply.B11 : List Nat := [0, 0, 0, 0, 8, 30, 63, 0, 128, 511, 1023]
theorem frame_Apply.tab11 : rtab .any (opsOf Tryd.f17 11) = frame_Apply.T11 := by kernel_rfl
theorem frame_Apply.bits11 : waitsOk frame_Apply.T11.2 frame_Apply.B11 = true := by kernel_rfl
set_option maxHeartbeats 8000000 in
set_option maxRecDepth 100000 in
theorem frame_Apply.calls (k : Nat) (A0 : Option Addr) (c0 : Nat) (l0 : List ByteArray) (A1 : Option Addr) (c1 : Nat) (l1 : List (S52)) (r1 : List ByteArray) (r2 : Int) (w : World) (hr0 : Kd.C Kd.string w A0 l0.length l0) (hc0 : l0.length ≤ c0) (hr1 : Kd.C k52 w A1 l1.length l1) (hc1 : l1.length ≤ c1) (h : frame_Apply.f k l0 l1 = some (r1, r2)) :
  Calls Tryd.prog 17 #[.slice A0 l0.length c0, .slice A1 l1.length c1] w fun e w' => ∃ v0_ : Value, e = .returned (.tuple #[v0_, .int .i64 r2]) ∧ Kd.R Kd.string 9 w' w.heap.size (fun _ => True) v0_ r1 ∧ Below w.heap.size w w' := by
 have hu52 := Tryd.underlying52
 have HR0 := Aside0.mk hr0
 have HC0 := Aside0.mk hc0
 clear hr0 hc0
 have HR1 := Aside0.mk hr1
 have HC1 := Aside0.mk hc1
 clear hr1 hc1
 have HB := Aside0.mk (Below.refl w.heap.size w)
 have H : ((frame_lineError.f k l0).bind fun t166 => (if t166 = 0 then ((frame_possible.f k l1).bind fun t167 => (frame_Apply.j0 k l0 l1 (!t167))) else (frame_Apply.j0 k l0 l1 true))) = some (r1, r2) := h
 clear h
 have HC3 := Aside0.mk H
 clear H
 go_enter Tryd.func17, Tryd.ntmps17
 go_upto_region 1 with (fail)
 go_cut [18] (fun v18 wc => ∃ (kq : Nat) (x18_2 : Bool), v18 = .bool x18_2 ∧ Aside0 (frame_Apply.j0 kq l0 l1 x18_2 = some (r1, r2)) ∧ Aside0 (kq ≤ k) ∧ Aside0 (Below w.heap.size w wc))
 case first =>
  have H := HC3.out
  clear HC3
  replace H := Option.bind_eq_some_iff.mp H
  obtain ⟨t166, A40, H⟩ := H
  replace H : (if t166 = 0 then ((frame_possible.f k l1).bind fun t167 => (frame_Apply.j0 k l0 l1 (!t167))) else (frame_Apply.j0 k l0 l1 true)) = some (r1, r2) := H
  have A4 := Aside0.mk A40
  clear A40
  by_cases c5 : t166 = 0
  ·rw [if_pos c5] at H
   have c5b0 : (t166 == 0) = true := beq_iff_eq.mpr c5
   have c5b1 : (t166 != 0) = false := bne_eq_false_iff_eq.mpr c5
   clear c5
   (first | rw [c5b0] | (simp only [i64_w, i32_w]; rw [c5b0]) | skip)
   replace H := Option.bind_eq_some_iff.mp H
   obtain ⟨t167, A60, H⟩ := H
   replace H : (frame_Apply.j0 k l0 l1 (!t167)) = some (r1, r2) := H
   have A6 := Aside0.mk A60
   clear A60
   have H' := Aside0.mk H
   clear H
   go_wp2_with (first | ((with_reducible refine gate_callee (f := 43) rfl ?_); refine goesL_ (some 12) rfl rfl Tryd.func43 (by kernel_rfl) rfl #[.slice A0 l0.length c0] rfl (by (try simp only [List.map_toArray, List.map_cons, List.map_nil]); first | done | rfl | (simp only [List.length_drop, List.length_take]; rfl)) ?_; (with_reducible refine (frame_lineError.calls k _ _ l0 t166 _ ?side1 ?side2 A4.out).mono ?_); (case side1 => repeat (first | exact (Kd.C_below HR0.out HB.out) | (with_reducible refine Kd.C_alloc ?_ _) | (with_reducible refine Kd.C_drewN ?_ _) | (with_reducible refine Kd.C_drew ?_))); (case side2 => exact HC0.out); rintro e w' ⟨rfl, ⟨nd, rfl⟩⟩; refine ⟨_, rfl, ?_⟩) | (go_at_call 44; (with_reducible refine (frame_possible.calls k _ _ l1 t167 _ ?side1 ?side2 A6.out).mono ?_); (case side1 => repeat (first | exact (Kd.C_below HR1.out (by repeat (first | (with_reducible first | exact HB.out | apply below_alloc | apply pw_below_drewN | apply below_drew1) | exact HB.out))) | (with_reducible refine Kd.C_alloc ?_ _) | (with_reducible refine Kd.C_drewN ?_ _) | (with_reducible refine Kd.C_drew ?_))); (case side2 => exact HC1.out); rintro e w7 ⟨rfl, hb⟩; have n0_ := Aside0.mk (below_step (by repeat (first | (with_reducible first | exact HB.out | apply below_alloc | apply pw_below_drewN | apply below_drew1) | exact HB.out)) hb); clear HB; have HB := n0_; clear n0_; (try clear hb); (try clear hb2); (try clear hk); (try clear hi)))
   go_meet
   case rel => exact ⟨_, (!t167), (by first | rfl | (simp; done) | (simp [*]; done)), H', ⟨by first | omega | exact Nat.le_refl _⟩, ⟨by repeat (first | (with_reducible first | exact HB.out | apply below_alloc | apply pw_below_drewN | apply below_drew1) | exact HB.out)⟩⟩
  ·rw [if_neg c5] at H
   have c5b0 : (t166 == 0) = false := beq_eq_false_iff_ne.mpr c5
   have c5b1 : (t166 != 0) = true := bne_iff_ne.mpr c5
   (first | rw [c5b0] | (simp only [i64_w, i32_w]; rw [c5b0]) | skip)
   have H' := Aside0.mk H
   clear H
   go_wp2_with (first | ((with_reducible refine gate_callee (f := 43) rfl ?_); refine goesL_ (some 12) rfl rfl Tryd.func43 (by kernel_rfl) rfl #[.slice A0 l0.length c0] rfl (by (try simp only [List.map_toArray, List.map_cons, List.map_nil]); first | done | rfl | (simp only [List.length_drop, List.length_take]; rfl)) ?_; (with_reducible refine (frame_lineError.calls k _ _ l0 t166 _ ?side1 ?side2 A4.out).mono ?_); (case side1 => repeat (first | exact (Kd.C_below HR0.out HB.out) | (with_reducible refine Kd.C_alloc ?_ _) | (with_reducible refine Kd.C_drewN ?_ _) | (with_reducible refine Kd.C_drew ?_))); (case side2 => exact HC0.out); rintro e w' ⟨rfl, ⟨nd, rfl⟩⟩; refine ⟨_, rfl, ?_⟩))
   go_meet
   case rel => exact ⟨_, (true), (by first | rfl | (simp; done) | (simp [*]; done)), H', ⟨by first | omega | exact Nat.le_refl _⟩, ⟨by repeat (first | (with_reducible first | exact HB.out | apply below_alloc | apply pw_below_drewN | apply below_drew1) | exact HB.out)⟩⟩
 case rest =>
  clear HC3
  try clear c1
  try clear p2
  try clear c4
  try clear c5
  try clear c5b0
  try clear c5b1
  obtain ⟨kq, x18_2, rfl, HA, HJ2, HB⟩ := hcut
  cases kq with
  | zero => exact absurd HA.out (by simp [frame_Apply.j0])
  | succ kj2 =>
   have H := HA.out
   clear HA
   simp only [frame_Apply.j0] at H
   by_cases c8 : x18_2 = true
   ·subst c8
    have H1 : (some (([] : List ByteArray), 1)) = some (r1, r2) := by rw [if_pos rfl] at H; exact H
    clear H
    have H := H1
    clear H1
    simp only [Option.some.injEq, Prod.mk.injEq] at H
    obtain ⟨rfl, rfl⟩ := H
    go_wp2
    go_ret2
    exact ⟨_, by first | rfl | (simp [errW_none, errW_some] <;> rfl) | (simp [*, errW_none, errW_some] <;> rfl), by first | exact Kd.R_nil _ _ _ _ _ | exact Kd.N_nil _ _ _ _ _ | exact Kd.V_nil _ _ _ _ _ | exact Kd.Q_nil _ _ _ _ _ | exact Kd.S_nil _ _ _ _ _, by repeat (first | (with_reducible first | exact HB.out | apply below_alloc | apply pw_below_drewN | apply below_drew1) | exact HB.out)⟩
   ·replace c8 := Bool.eq_false_iff.mpr c8
    subst c8
    have H1 : (if (l1.length : Int) > 0 then (if 0 ≤ (wrap64 ((l1.length : Int) - 1)) then (if (wrap64 ((l1.length : Int) - 1)) < (l1.length : Int) then (frame_Apply.j1 kj2 l0 l1 (decide (((rd_T52 l1 (wrap64 ((l1.length : Int) - 1))).f0) > (wrap64 ((l0.length : Int) - ((rd_T52 l1 (wrap64 ((l1.length : Int) - 1))).f1)))))) else (none)) else (none)) else (frame_Apply.j1 kj2 l0 l1 false)) = some (r1, r2) := by rw [if_neg (show ¬ (false = true) by decide)] at H; exact H
    clear H
    have H := H1
    clear H1
    have HC9 := Aside0.mk H
    clear H
    go_upto_region 4 with (fail)
    go_cut [40] (fun v40 wc => ∃ (kq : Nat) (x40_8 : Bool), v40 = .bool x40_8 ∧ Aside0 (frame_Apply.j1 kq l0 l1 x40_8 = some (r1, r2)) ∧ Aside0 (kq ≤ kj2) ∧ Aside0 (Below w.heap.size w wc))
    case first =>
     have H := HC9.out
     clear HC9
     by_cases c10 : (l1.length : Int) > 0
     ·rw [if_pos c10] at H
      have c10b0 : decide (0 < (l1.length : Int)) = true := decide_eq_true c10
      have c10b1 : decide (0 < l1.length) = true := decide_eq_true (by omega)
      clear c10
      (first | rw [c10b0] | (simp only [i64_w, i32_w]; rw [c10b0]) | skip)
      obtain ⟨ji11, hji11⟩ : ∃ j_ : Int, (wrap64 ((l1.length : Int) - 1)) = j_ := ⟨_, rfl⟩
      replace H : (if 0 ≤ (ji11) then (if (ji11) < (l1.length : Int) then (frame_Apply.j1 kj2 l0 l1 (decide (((rd_T52 l1 (ji11)).f0) > (wrap64 ((l0.length : Int) - ((rd_T52 l1 (ji11)).f1)))))) else (none)) else (none)) = some (r1, r2) := by first | (rw [hji11] at H; exact H) | (simp only [hji11] at H ⊢; exact H)
      have hji11w : (IntKind.i64.wrap ((l1.length : Int) - 1)) = ji11 := (i64_w _).trans hji11
      by_cases c12 : 0 ≤ (ji11)
      ·rw [if_pos c12] at H
       have c12b0 : decide (0 ≤ (ji11)) = true := decide_eq_true c12
       clear c12
       by_cases c13 : (ji11) < (l1.length : Int)
       ·rw [if_pos c13] at H
        have c13b0 : decide ((ji11) < (l1.length : Int)) = true := decide_eq_true c13
        clear c13
        have H' := Aside0.mk H
        clear H
        try go_wp2
        have n0_ := Aside0.mk (below_drew1 HB.out)
        clear HB
        have HB := n0_
        clear n0_
        have p168 : 0 ≤ ((ji11) : Int) := of_decide_eq_true (by first | (with_reducible assumption) | assumption)
        have q168 : (ji11) < (l1.length : Int) := of_decide_eq_true (by first | (with_reducible assumption) | assumption)
        obtain ⟨ad168, A168_2, c168_2, e168, hx168_0, hx168_1, hx168_2, hl168_2, hi168_2⟩ := at_T52 HR1.out (ji11) p168 q168
        have hw168_2 := hx168_2
        have hw168_1 := hx168_1
        have hw168_0 := hx168_0
        cases e168
        replace hx168_0 := (HB.out.cell (World.block_lt_of_cell? w _ hx168_0)).trans hx168_0
        replace hx168_1 := (HB.out.cell (World.block_lt_of_cell? w _ hx168_1)).trans hx168_1
        replace hx168_2 := (HB.out.cell (World.block_lt_of_cell? w _ hx168_2)).trans hx168_2
        have HR168_2 := Aside0.mk hi168_2
        have HC168_2 := Aside0.mk hl168_2
        clear hi168_2 hl168_2
        replace p168 := eq_true p168
        replace q168 := eq_true q168
        have p169 : 0 ≤ ((ji11) : Int) := of_decide_eq_true (by first | (with_reducible assumption) | assumption)
        have q169 : (ji11) < (l1.length : Int) := of_decide_eq_true (by first | (with_reducible assumption) | assumption)
        obtain ⟨ad169, A169_2, c169_2, e169, hx169_0, hx169_1, hx169_2, hl169_2, hi169_2⟩ := at_T52 HR1.out (ji11) p169 q169
        have hw169_2 := hx169_2
        have hw169_1 := hx169_1
        have hw169_0 := hx169_0
        obtain rfl : ad168 = ad169 := (by injection e169)
        replace hx169_0 := (HB.out.cell (World.block_lt_of_cell? w _ hx169_0)).trans hx169_0
        replace hx169_1 := (HB.out.cell (World.block_lt_of_cell? w _ hx169_1)).trans hx169_1
        replace hx169_2 := (HB.out.cell (World.block_lt_of_cell? w _ hx169_2)).trans hx169_2
        have HR169_2 := Aside0.mk hi169_2
        have HC169_2 := Aside0.mk hl169_2
        clear hi169_2 hl169_2
        replace p169 := eq_true p169
        replace q169 := eq_true q169
        have ea_ := Option.some.inj (hx168_2.symm.trans hx169_2)
        injection ea_ with ea_ en_ ec_
        subst ea_
        subst ec_
        clear en_
        refine start_ (n := 20) (S := fun w' => w'.cell? (ad168.add (((ji11)).toNat * 3)) = some (.int .i64 ((rd_T52 l1 (ji11)).f0)) ∧ w'.cell? ⟨(ad168.add (((ji11)).toNat * 3)).block, (ad168.add (((ji11)).toNat * 3)).off + 1, none⟩ = some (.int .i64 ((rd_T52 l1 (ji11)).f1)) ∧ w'.cell? ⟨(ad168.add (((ji11)).toNat * 3)).block, (ad168.add (((ji11)).toNat * 3)).off + 2, none⟩ = some (.slice A168_2 ((rd_T52 l1 (ji11)).f2).length c168_2) ∧ w'.cell? (ad168.add (((ji11)).toNat * 3)) = some (.int .i64 ((rd_T52 l1 (ji11)).f0)) ∧ w'.cell? ⟨(ad168.add (((ji11)).toNat * 3)).block, (ad168.add (((ji11)).toNat * 3)).off + 1, none⟩ = some (.int .i64 ((rd_T52 l1 (ji11)).f1)) ∧ w'.cell? ⟨(ad168.add (((ji11)).toNat * 3)).block, (ad168.add (((ji11)).toNat * 3)).off + 2, none⟩ = some (.slice A168_2 ((rd_T52 l1 (ji11)).f2).length c168_2)) (ds := []) #[false, false, false, false, false, false, false, false, false, false, false, false, false, false, false, false, false, false, false, false] (by kernel_rfl) rfl rfl ⟨((HB.out.cell (World.block_lt_of_cell? w _ hw168_0)).trans hw168_0), ((HB.out.cell (World.block_lt_of_cell? w _ hw168_1)).trans hw168_1), ((HB.out.cell (World.block_lt_of_cell? w _ hw168_2)).trans hw168_2), ((HB.out.cell (World.block_lt_of_cell? w _ hw169_0)).trans hw169_0), ((HB.out.cell (World.block_lt_of_cell? w _ hw169_1)).trans hw169_1), ((HB.out.cell (World.block_lt_of_cell? w _ hw169_2)).trans hw169_2)⟩ (fun hHeld => ?_); refine with_tabW frame_Apply.tab4 frame_Apply.bits4 (fun HT_ HW_ => ?_)
        generalize wc.drew = w14 at HB HR168_2 HR169_2 hx168_0 hx168_1 hx168_2 hx169_0 hx169_1 hx169_2 hHeld ⊢
        refine pure_ (i := 0) (N := some 21) (v := ?_) (a' := ?_) #[true, false, false, false, false, false, false, false, false, false, false, false, false, false, false, false, false, false, false, false] rfl rfl (any_of HT_.out (by kernel_rfl)) (fun _ _ _ h => h) (Or.inl ⟨by rfl, ?_⟩) ?_ ?_
        rotate_left
        ·intro w'
         go_simp
         with_reducible rfl
        rotate_left
        ·simp only [Act.put, List.setIfInBounds_toArray, List.set_cons_zero, List.set_cons_succ, i64_w, i32_w]
         rfl
        refine pure_ (i := 1) (N := some 22) (v := ?_) (a' := ?_) #[true, true, false, false, false, false, false, false, false, false, false, false, false, false, false, false, false, false, false, false] rfl rfl (any_of HT_.out (by kernel_rfl)) (fun _ _ _ h => h) (Or.inl ⟨by rfl, ?_⟩) ?_ ?_
        rotate_left
        ·intro w'
         go_simp
         with_reducible rfl
        rotate_left
        ·simp only [Act.put, List.setIfInBounds_toArray, List.set_cons_zero, List.set_cons_succ, i64_w, i32_w]
         rfl
        refine pure_ (i := 2) (N := some 23) (v := ?_) (a' := ?_) #[true, true, true, false, false, false, false, false, false, false, false, false, false, false, false, false, false, false, false, false] rfl rfl (any_of HT_.out (by kernel_rfl)) (fun _ _ _ h => h) (Or.inl ⟨by rfl, ?_⟩) ?_ ?_
        rotate_left
        ·intro w'
         go_simp
         with_reducible rfl
        rotate_left
        ·simp only [Act.put, List.setIfInBounds_toArray, List.set_cons_zero, List.set_cons_succ, i64_w, i32_w]
         rfl
        refine pure_ (i := 3) (N := some 24) (v := ?_) (a' := ?_) #[true, true, true, true, false, false, false, false, false, false, false, false, false, false, false, false, false, false, false, false] rfl rfl (any_of HT_.out (by kernel_rfl)) (fun _ _ _ h => h) (Or.inl ⟨by rfl, ?_⟩) ?_ ?_
        rotate_left
        ·intro w'
         go_simp
         with_reducible rfl
        rotate_left
        ·simp only [Act.put, List.setIfInBounds_toArray, List.set_cons_zero, List.set_cons_succ, i64_w, i32_w]
         rfl
        refine pure_ (i := 4) (N := some 25) (v := ?_) (a' := ?_) #[true, true, true, true, true, false, false, false, false, false, false, false, false, false, false, false, false, false, false, false] rfl rfl (any_of HT_.out (by kernel_rfl)) (fun _ _ _ h => h) (Or.inl ⟨by rfl, ?_⟩) ?_ ?_
        rotate_left
        ·intro w'
         go_simp
         with_reducible rfl
        rotate_left
        ·simp only [Act.put, List.setIfInBounds_toArray, List.set_cons_zero, List.set_cons_succ, i64_w, i32_w]
         rfl
        refine pure_ (i := 5) (N := some 26) (v := ?_) (a' := ?_) #[true, true, true, true, true, true, false, false, false, false, false, false, false, false, false, false, false, false, false, false] rfl rfl (any_of HT_.out (by kernel_rfl)) (fun _ _ _ h => h) (Or.inl ⟨by rfl, ?_⟩) ?_ ?_
        rotate_left
        ·intro w'
         go_simp
         with_reducible rfl
        rotate_left
        ·simp only [Act.put, List.setIfInBounds_toArray, List.set_cons_zero, List.set_cons_succ, i64_w, i32_w]
         rfl
        refine pure_ (i := 6) (N := some 27) (v := ?_) (a' := ?_) #[true, true, true, true, true, true, true, false, false, false, false, false, false, false, false, false, false, false, false, false] rfl rfl (any_of HT_.out (by kernel_rfl)) (fun _ _ _ h => h) (Or.inl ⟨by rfl, ?_⟩) ?_ ?_
        rotate_left
        ·intro w'
         go_simp
         with_reducible rfl
        rotate_left
        ·simp only [Act.put, List.setIfInBounds_toArray, List.set_cons_zero, List.set_cons_succ, i64_w, i32_w]
         rfl
        refine pure_ (i := 7) (N := some 28) (v := ?_) (a' := ?_) #[true, true, true, true, true, true, true, true, false, false, false, false, false, false, false, false, false, false, false, false] rfl rfl (any_of HT_.out (by kernel_rfl)) (fun _ _ _ h => h) (Or.inl ⟨by rfl, ?_⟩) ?_ ?_
        rotate_left
        ·intro w'
         go_simp
         with_reducible rfl
        rotate_left
        ·simp only [Act.put, List.setIfInBounds_toArray, List.set_cons_zero, List.set_cons_succ, i64_w, i32_w]
         rfl
        refine pure_ (i := 9) (N := some 30) (v := ?_) (a' := ?_) #[true, true, true, true, true, true, true, true, false, true, false, false, false, false, false, false, false, false, false, false] rfl rfl (any_of HT_.out (by kernel_rfl)) (fun _ _ _ h => h) (Or.inl ⟨by rfl, ?_⟩) ?_ ?_
        rotate_left
        ·intro w'
         go_simp
         with_reducible rfl
        rotate_left
        ·simp only [Act.put, List.setIfInBounds_toArray, List.set_cons_zero, List.set_cons_succ, i64_w, i32_w]
         rfl
        refine pure_ (i := 10) (N := some 31) (v := ?_) (a' := ?_) #[true, true, true, true, true, true, true, true, false, true, true, false, false, false, false, false, false, false, false, false] rfl rfl (any_of HT_.out (by kernel_rfl)) (fun _ _ _ h => h) (Or.inl ⟨by rfl, ?_⟩) ?_ ?_
        rotate_left
        ·intro w'
         go_simp
         with_reducible rfl
        rotate_left
        ·simp only [Act.put, List.setIfInBounds_toArray, List.set_cons_zero, List.set_cons_succ, i64_w, i32_w]
         rfl
        refine pure_ (i := 11) (N := some 32) (v := ?_) (a' := ?_) #[true, true, true, true, true, true, true, true, false, true, true, true, false, false, false, false, false, false, false, false] rfl rfl (any_of HT_.out (by kernel_rfl)) (fun _ _ _ h => h) (Or.inl ⟨by rfl, ?_⟩) ?_ ?_
        rotate_left
        ·intro w'
         go_simp
         with_reducible rfl
        rotate_left
        ·simp only [Act.put, List.setIfInBounds_toArray, List.set_cons_zero, List.set_cons_succ, i64_w, i32_w]
         rfl
        refine pure_ (i := 12) (N := some 33) (v := ?_) (a' := ?_) #[true, true, true, true, true, true, true, true, false, true, true, true, true, false, false, false, false, false, false, false] rfl rfl (any_of HT_.out (by kernel_rfl)) (fun _ _ _ h => h) (Or.inl ⟨by rfl, ?_⟩) ?_ ?_
        rotate_left
        ·intro w'
         go_simp
         with_reducible rfl
        rotate_left
        ·simp only [Act.put, List.setIfInBounds_toArray, List.set_cons_zero, List.set_cons_succ, i64_w, i32_w]
         rfl
        refine pure_ (i := 13) (N := some 34) (v := ?_) (a' := ?_) #[true, true, true, true, true, true, true, true, false, true, true, true, true, true, false, false, false, false, false, false] rfl rfl (any_of HT_.out (by kernel_rfl)) (fun _ _ _ h => h) (Or.inl ⟨by rfl, ?_⟩) ?_ ?_
        rotate_left
        ·intro w'
         go_simp
         with_reducible rfl
        rotate_left
        ·simp only [Act.put, List.setIfInBounds_toArray, List.set_cons_zero, List.set_cons_succ, i64_w, i32_w]
         rfl
        refine pure_ (i := 14) (N := some 35) (v := ?_) (a' := ?_) #[true, true, true, true, true, true, true, true, false, true, true, true, true, true, true, false, false, false, false, false] rfl rfl (any_of HT_.out (by kernel_rfl)) (fun _ _ _ h => h) (Or.inl ⟨by rfl, ?_⟩) ?_ ?_
        rotate_left
        ·intro w'
         go_simp
         with_reducible rfl
        rotate_left
        ·simp only [Act.put, List.setIfInBounds_toArray, List.set_cons_zero, List.set_cons_succ, i64_w, i32_w]
         rfl
        refine pure_ (i := 15) (N := some 36) (v := ?_) (a' := ?_) #[true, true, true, true, true, true, true, true, false, true, true, true, true, true, true, true, false, false, false, false] rfl rfl (any_of HT_.out (by kernel_rfl)) (fun _ _ _ h => h) (Or.inl ⟨by rfl, ?_⟩) ?_ ?_
        rotate_left
        ·intro w'
         go_simp
         with_reducible rfl
        rotate_left
        ·simp only [Act.put, List.setIfInBounds_toArray, List.set_cons_zero, List.set_cons_succ, i64_w, i32_w]
         rfl
        refine take_ (i := 8) (N := some 29) (v := ?_) (a' := ?_) #[true, true, true, true, true, true, true, true, true, true, true, true, true, true, true, true, false, false, false, false] rfl rfl (take_ofW HT_.out HW_.out (by kernel_rfl)) (fun _ _ _ h => h) (Or.inl ⟨by rfl, ?_⟩) hHeld ?_ ?_
        rotate_left
        ·rintro w' ⟨s0, s1, s2, s3, s4, s5⟩
         go_simp
         with_reducible rfl
        rotate_left
        ·simp only [Act.put, List.setIfInBounds_toArray, List.set_cons_zero, List.set_cons_succ, i64_w, i32_w]
         rfl
        refine take_ (i := 16) (N := some 37) (v := ?_) (a' := ?_) #[true, true, true, true, true, true, true, true, true, true, true, true, true, true, true, true, true, false, false, false] rfl rfl (take_ofW HT_.out HW_.out (by kernel_rfl)) (fun _ _ _ h => h) (Or.inl ⟨by rfl, ?_⟩) hHeld ?_ ?_
        rotate_left
        ·rintro w' ⟨s0, s1, s2, s3, s4, s5⟩
         go_simp
         with_reducible rfl
        rotate_left
        ·simp only [Act.put, List.setIfInBounds_toArray, List.set_cons_zero, List.set_cons_succ, i64_w, i32_w]
         rfl
        refine pure_ (i := 17) (N := some 38) (v := ?_) (a' := ?_) #[true, true, true, true, true, true, true, true, true, true, true, true, true, true, true, true, true, true, false, false] rfl rfl (any_of HT_.out (by kernel_rfl)) (fun _ _ _ h => h) (Or.inl ⟨by rfl, ?_⟩) ?_ ?_
        rotate_left
        ·intro w'
         go_simp
         with_reducible rfl
        rotate_left
        ·simp only [Act.put, List.setIfInBounds_toArray, List.set_cons_zero, List.set_cons_succ, i64_w, i32_w]
         rfl
        refine pure_ (i := 18) (N := some 39) (v := ?_) (a' := ?_) #[true, true, true, true, true, true, true, true, true, true, true, true, true, true, true, true, true, true, true, false] rfl rfl (any_of HT_.out (by kernel_rfl)) (fun _ _ _ h => h) (Or.inl ⟨by rfl, ?_⟩) ?_ ?_
        rotate_left
        ·intro w'
         go_simp
         with_reducible rfl
        rotate_left
        ·simp only [Act.put, List.setIfInBounds_toArray, List.set_cons_zero, List.set_cons_succ, i64_w, i32_w]
         rfl
        refine pure_ (i := 19) (N := some 40) (v := ?_) (a' := ?_) #[true, true, true, true, true, true, true, true, true, true, true, true, true, true, true, true, true, true, true, true] rfl rfl (any_of HT_.out (by kernel_rfl)) (fun _ _ _ h => h) (Or.inl ⟨by rfl, ?_⟩) ?_ ?_
        rotate_left
        ·intro w'
         go_simp
         with_reducible rfl
        rotate_left
        ·simp only [Act.put, List.setIfInBounds_toArray, List.set_cons_zero, List.set_cons_succ, i64_w, i32_w]
         rfl
        refine done_ (done_of HT_.out (by kernel_rfl)) ?_
        try go_wp2
        go_meet
        case rel => exact ⟨_, (decide (((rd_T52 l1 (ji11)).f0) > (wrap64 ((l0.length : Int) - ((rd_T52 l1 (ji11)).f1))))), (by first | rfl | (simp; done) | (simp only [← hji11] <;> (first | rfl | simp)) | (simp [*]; done)), H', ⟨by have := HJ2.out; first | omega | exact Nat.le_refl _⟩, ⟨by repeat (first | (with_reducible first | exact HB.out | apply below_alloc | apply pw_below_drewN | apply below_drew1) | exact HB.out)⟩⟩
       ·rw [if_neg c13] at H
        exact absurd H (by simp)
      ·rw [if_neg c12] at H
       exact absurd H (by simp)
     ·rw [if_neg c10] at H
      have c10b0 : decide (0 < (l1.length : Int)) = false := decide_eq_false c10
      have c10b1 : decide (0 < l1.length) = false := decide_eq_false (by omega)
      clear c10
      (first | rw [c10b0] | (simp only [i64_w, i32_w]; rw [c10b0]) | skip)
      have H' := Aside0.mk H
      clear H
      try go_wp2
      have n0_ := Aside0.mk (below_drew1 HB.out)
      clear HB
      have HB := n0_
      clear n0_
      refine start_ (n := 20) (S := fun w' => True) (ds := []) #[false, false, false, false, false, false, false, false, false, false, false, false, false, false, false, false, false, false, false, false] (by kernel_rfl) rfl rfl trivial (fun hHeld => ?_); refine with_tabW frame_Apply.tab4 frame_Apply.bits4 (fun HT_ HW_ => ?_)
      generalize wc.drew = w15 at HB hHeld ⊢
      refine pure_ (i := 0) (N := some 21) (v := ?_) (a' := ?_) #[true, false, false, false, false, false, false, false, false, false, false, false, false, false, false, false, false, false, false, false] rfl rfl (any_of HT_.out (by kernel_rfl)) (fun _ _ _ h => h) (Or.inl ⟨by rfl, ?_⟩) ?_ ?_
      rotate_left
      ·intro w'
       go_simp
       with_reducible rfl
      rotate_left
      ·simp only [Act.put, List.setIfInBounds_toArray, List.set_cons_zero, List.set_cons_succ, i64_w, i32_w]
       rfl
      refine pure_ (i := 1) (N := some 22) (v := ?_) (a' := ?_) #[true, true, false, false, false, false, false, false, false, false, false, false, false, false, false, false, false, false, false, false] rfl rfl (any_of HT_.out (by kernel_rfl)) (fun _ _ _ h => h) (Or.inl ⟨by rfl, ?_⟩) ?_ ?_
      rotate_left
      ·intro w'
       go_simp
       with_reducible rfl
      rotate_left
      ·simp only [Act.put, List.setIfInBounds_toArray, List.set_cons_zero, List.set_cons_succ, i64_w, i32_w]
       rfl
      refine pure_ (i := 2) (N := some 23) (v := ?_) (a' := ?_) #[true, true, true, false, false, false, false, false, false, false, false, false, false, false, false, false, false, false, false, false] rfl rfl (any_of HT_.out (by kernel_rfl)) (fun _ _ _ h => h) (Or.inl ⟨by rfl, ?_⟩) ?_ ?_
      rotate_left
      ·intro w'
       go_simp
       with_reducible rfl
      rotate_left
      ·simp only [Act.put, List.setIfInBounds_toArray, List.set_cons_zero, List.set_cons_succ, i64_w, i32_w]
       rfl
      refine pure_ (i := 3) (N := some 24) (v := undef) (a' := ?_) #[true, true, true, true, false, false, false, false, false, false, false, false, false, false, false, false, false, false, false, false] rfl rfl (any_of HT_.out (by kernel_rfl)) (fun _ _ _ h => h) (Or.inr ⟨by rfl, rfl⟩) ?_ ?_
      rotate_left
      ·simp only [Act.put, List.setIfInBounds_toArray, List.set_cons_zero, List.set_cons_succ, i64_w, i32_w]
       rfl
      refine pure_ (i := 4) (N := some 25) (v := undef) (a' := ?_) #[true, true, true, true, true, false, false, false, false, false, false, false, false, false, false, false, false, false, false, false] rfl rfl (any_of HT_.out (by kernel_rfl)) (fun _ _ _ h => h) (Or.inr ⟨by rfl, rfl⟩) ?_ ?_
      rotate_left
      ·simp only [Act.put, List.setIfInBounds_toArray, List.set_cons_zero, List.set_cons_succ, i64_w, i32_w]
       rfl
      refine pure_ (i := 5) (N := some 26) (v := undef) (a' := ?_) #[true, true, true, true, true, true, false, false, false, false, false, false, false, false, false, false, false, false, false, false] rfl rfl (any_of HT_.out (by kernel_rfl)) (fun _ _ _ h => h) (Or.inr ⟨by rfl, rfl⟩) ?_ ?_
      rotate_left
      ·simp only [Act.put, List.setIfInBounds_toArray, List.set_cons_zero, List.set_cons_succ, i64_w, i32_w]
       rfl
      refine pure_ (i := 6) (N := some 27) (v := undef) (a' := ?_) #[true, true, true, true, true, true, true, false, false, false, false, false, false, false, false, false, false, false, false, false] rfl rfl (any_of HT_.out (by kernel_rfl)) (fun _ _ _ h => h) (Or.inr ⟨by rfl, rfl⟩) ?_ ?_
      rotate_left
      ·simp only [Act.put, List.setIfInBounds_toArray, List.set_cons_zero, List.set_cons_succ, i64_w, i32_w]
       rfl
      refine pure_ (i := 7) (N := some 28) (v := undef) (a' := ?_) #[true, true, true, true, true, true, true, true, false, false, false, false, false, false, false, false, false, false, false, false] rfl rfl (any_of HT_.out (by kernel_rfl)) (fun _ _ _ h => h) (Or.inr ⟨by rfl, rfl⟩) ?_ ?_
      rotate_left
      ·simp only [Act.put, List.setIfInBounds_toArray, List.set_cons_zero, List.set_cons_succ, i64_w, i32_w]
       rfl
      refine pure_ (i := 8) (N := some 29) (v := undef) (a' := ?_) #[true, true, true, true, true, true, true, true, true, false, false, false, false, false, false, false, false, false, false, false] rfl rfl (any_of HT_.out (by kernel_rfl)) (fun _ _ _ h => h) (Or.inr ⟨by rfl, rfl⟩) ?_ ?_
      rotate_left
      ·simp only [Act.put, List.setIfInBounds_toArray, List.set_cons_zero, List.set_cons_succ, i64_w, i32_w]
       rfl
      refine pure_ (i := 9) (N := some 30) (v := undef) (a' := ?_) #[true, true, true, true, true, true, true, true, true, true, false, false, false, false, false, false, false, false, false, false] rfl rfl (any_of HT_.out (by kernel_rfl)) (fun _ _ _ h => h) (Or.inr ⟨by rfl, rfl⟩) ?_ ?_
      rotate_left
      ·simp only [Act.put, List.setIfInBounds_toArray, List.set_cons_zero, List.set_cons_succ, i64_w, i32_w]
       rfl
      refine pure_ (i := 10) (N := some 31) (v := undef) (a' := ?_) #[true, true, true, true, true, true, true, true, true, true, true, false, false, false, false, false, false, false, false, false] rfl rfl (any_of HT_.out (by kernel_rfl)) (fun _ _ _ h => h) (Or.inr ⟨by rfl, rfl⟩) ?_ ?_
      rotate_left
      ·simp only [Act.put, List.setIfInBounds_toArray, List.set_cons_zero, List.set_cons_succ, i64_w, i32_w]
       rfl
      refine pure_ (i := 11) (N := some 32) (v := undef) (a' := ?_) #[true, true, true, true, true, true, true, true, true, true, true, true, false, false, false, false, false, false, false, false] rfl rfl (any_of HT_.out (by kernel_rfl)) (fun _ _ _ h => h) (Or.inr ⟨by rfl, rfl⟩) ?_ ?_
      rotate_left
      ·simp only [Act.put, List.setIfInBounds_toArray, List.set_cons_zero, List.set_cons_succ, i64_w, i32_w]
       rfl
      refine pure_ (i := 12) (N := some 33) (v := undef) (a' := ?_) #[true, true, true, true, true, true, true, true, true, true, true, true, true, false, false, false, false, false, false, false] rfl rfl (any_of HT_.out (by kernel_rfl)) (fun _ _ _ h => h) (Or.inr ⟨by rfl, rfl⟩) ?_ ?_
      rotate_left
      ·simp only [Act.put, List.setIfInBounds_toArray, List.set_cons_zero, List.set_cons_succ, i64_w, i32_w]
       rfl
      refine pure_ (i := 13) (N := some 34) (v := undef) (a' := ?_) #[true, true, true, true, true, true, true, true, true, true, true, true, true, true, false, false, false, false, false, false] rfl rfl (any_of HT_.out (by kernel_rfl)) (fun _ _ _ h => h) (Or.inr ⟨by rfl, rfl⟩) ?_ ?_
      rotate_left
      ·simp only [Act.put, List.setIfInBounds_toArray, List.set_cons_zero, List.set_cons_succ, i64_w, i32_w]
       rfl
      refine pure_ (i := 14) (N := some 35) (v := undef) (a' := ?_) #[true, true, true, true, true, true, true, true, true, true, true, true, true, true, true, false, false, false, false, false] rfl rfl (any_of HT_.out (by kernel_rfl)) (fun _ _ _ h => h) (Or.inr ⟨by rfl, rfl⟩) ?_ ?_
      rotate_left
      ·simp only [Act.put, List.setIfInBounds_toArray, List.set_cons_zero, List.set_cons_succ, i64_w, i32_w]
       rfl
      refine pure_ (i := 15) (N := some 36) (v := undef) (a' := ?_) #[true, true, true, true, true, true, true, true, true, true, true, true, true, true, true, true, false, false, false, false] rfl rfl (any_of HT_.out (by kernel_rfl)) (fun _ _ _ h => h) (Or.inr ⟨by rfl, rfl⟩) ?_ ?_
      rotate_left
      ·simp only [Act.put, List.setIfInBounds_toArray, List.set_cons_zero, List.set_cons_succ, i64_w, i32_w]
       rfl
      refine pure_ (i := 16) (N := some 37) (v := undef) (a' := ?_) #[true, true, true, true, true, true, true, true, true, true, true, true, true, true, true, true, true, false, false, false] rfl rfl (any_of HT_.out (by kernel_rfl)) (fun _ _ _ h => h) (Or.inr ⟨by rfl, rfl⟩) ?_ ?_
      rotate_left
      ·simp only [Act.put, List.setIfInBounds_toArray, List.set_cons_zero, List.set_cons_succ, i64_w, i32_w]
       rfl
      refine pure_ (i := 17) (N := some 38) (v := undef) (a' := ?_) #[true, true, true, true, true, true, true, true, true, true, true, true, true, true, true, true, true, true, false, false] rfl rfl (any_of HT_.out (by kernel_rfl)) (fun _ _ _ h => h) (Or.inr ⟨by rfl, rfl⟩) ?_ ?_
      rotate_left
      ·simp only [Act.put, List.setIfInBounds_toArray, List.set_cons_zero, List.set_cons_succ, i64_w, i32_w]
       rfl
      refine pure_ (i := 18) (N := some 39) (v := undef) (a' := ?_) #[true, true, true, true, true, true, true, true, true, true, true, true, true, true, true, true, true, true, true, false] rfl rfl (any_of HT_.out (by kernel_rfl)) (fun _ _ _ h => h) (Or.inr ⟨by rfl, rfl⟩) ?_ ?_
      rotate_left
      ·simp only [Act.put, List.setIfInBounds_toArray, List.set_cons_zero, List.set_cons_succ, i64_w, i32_w]
       rfl
      refine pure_ (i := 19) (N := some 40) (v := ?_) (a' := ?_) #[true, true, true, true, true, true, true, true, true, true, true, true, true, true, true, true, true, true, true, true] rfl rfl (any_of HT_.out (by kernel_rfl)) (fun _ _ _ h => h) (Or.inl ⟨by rfl, ?_⟩) ?_ ?_
      rotate_left
      ·intro w'
       go_simp
       with_reducible rfl
      rotate_left
      ·simp only [Act.put, List.setIfInBounds_toArray, List.set_cons_zero, List.set_cons_succ, i64_w, i32_w]
       rfl
      refine done_ (done_of HT_.out (by kernel_rfl)) ?_
      try go_wp2
      go_meet
      case rel => exact ⟨_, (false), (by first | rfl | (simp; done) | (simp [*]; done)), H', ⟨by have := HJ2.out; first | omega | exact Nat.le_refl _⟩, ⟨by repeat (first | (with_reducible first | exact HB.out | apply below_alloc | apply pw_below_drewN | apply below_drew1) | exact HB.out)⟩⟩
    case rest =>
     clear HC9
     try clear c1
     try clear p1
     try clear q1
     try clear hx1
     try clear p2
     try clear c4
     try clear c5
     try clear c5b0
     try clear c5b1
     try clear p6
     try clear c8
     try clear c10
     try clear c10b0
     try clear c10b1
     try clear c12
     try clear c12b0
     try clear c13
     try clear c13b0
     try clear hx168_0
     try clear hx168_1
     try clear hx168_2
     try clear hx169_0
     try clear hx169_1
     try clear hx169_2
     try clear p168
     try clear p169
     try clear p2
     try clear q168
     try clear q169
     obtain ⟨kq, x40_8, rfl, HA, HJ8, HB⟩ := hcut
     cases kq with
     | zero => exact absurd HA.out (by simp [frame_Apply.j1])
     | succ kj8 =>
      have H := HA.out
      clear HA
      simp only [frame_Apply.j1] at H
      by_cases c16 : x40_8 = true
      ·subst c16
       have H1 : (some (([] : List ByteArray), 5)) = some (r1, r2) := by rw [if_pos rfl] at H; exact H
       clear H
       have H := H1
       clear H1
       simp only [Option.some.injEq, Prod.mk.injEq] at H
       obtain ⟨rfl, rfl⟩ := H
       go_wp2
       go_ret2
       exact ⟨_, by first | rfl | (simp [errW_none, errW_some] <;> rfl) | (simp [*, errW_none, errW_some] <;> rfl), by first | exact Kd.R_nil _ _ _ _ _ | exact Kd.N_nil _ _ _ _ _ | exact Kd.V_nil _ _ _ _ _ | exact Kd.Q_nil _ _ _ _ _ | exact Kd.S_nil _ _ _ _ _, by repeat (first | (with_reducible first | exact HB.out | apply below_alloc | apply pw_below_drewN | apply below_drew1) | exact HB.out)⟩
      ·replace c16 := Bool.eq_false_iff.mpr c16
       subst c16
       have H1 : (frame_Apply.l0 kj8 l0 ([] : List ByteArray) 0 l1 (l1.length : Int) 0) = some (r1, r2) := by rw [if_neg (show ¬ (false = true) by decide)] at H; exact H
       clear H
       have H := H1
       clear H1
       have H' := Aside0.mk H
       clear H
       go_wp2
       go_loopg [7, 8, 43] kj8 (fun kq v7 v8 v43 w' => ∃ (x7_3 : List ByteArray) (x8_3 : Int) (x43_3 : Int), v8 = .int .i64 x8_3 ∧ v43 = .int .i64 x43_3 ∧ Aside0 (frame_Apply.l0 kq l0 x7_3 x8_3 l1 (l1.length : Int) x43_3 = some (r1, r2)) ∧ Aside0 (kq ≤ kj8) ∧ Aside0 (Kd.R Kd.string 9 w' w.heap.size (fun _ => True) v7 x7_3) ∧ Aside0 (Below w.heap.size w w'))
       case atStart => exact ⟨(([] : List ByteArray)), (0), (0), (by first | rfl | (simp; done) | (simp [*]; done)), (by first | rfl | (simp; done) | (simp [*]; done)), H', ⟨Nat.le_refl _⟩, ⟨by first | exact Kd.R_nil _ _ _ _ _ | exact Kd.N_nil _ _ _ _ _ | exact Kd.V_nil _ _ _ _ _ | exact Kd.Q_nil _ _ _ _ _ | exact Kd.S_nil _ _ _ _ _⟩, ⟨by repeat (first | (with_reducible first | exact HB.out | apply below_alloc | apply pw_below_drewN | apply below_drew1) | exact HB.out)⟩⟩
       case round =>
        clear H'
        try clear c1
        try clear p1
        try clear q1
        try clear hx1
        try clear p2
        try clear c4
        try clear c5
        try clear c5b0
        try clear c5b1
        try clear p6
        try clear c8
        try clear c10
        try clear c10b0
        try clear c10b1
        try clear c12
        try clear c12b0
        try clear c13
        try clear c13b0
        try clear c16
        try clear p16
        try clear q16
        try clear hx16
        try clear hx168_0
        try clear hx168_1
        try clear hx168_2
        try clear hx169_0
        try clear hx169_1
        try clear hx169_2
        try clear p1
        try clear p168
        try clear p169
        try clear p2
        try clear p6
        try clear q1
        try clear q168
        try clear q169
        obtain ⟨x7_3, x8_3, x43_3, rfl, rfl, HA, HK3, HO_7, HB⟩ := hrel
        cases gk with
        | zero => exact absurd HA.out (by simp [frame_Apply.l0])
        | succ k3 =>
         have H := HA.out
         clear HA
         simp only [frame_Apply.l0] at H
         by_cases c17 : x43_3 < (l1.length : Int)
         ·rw [if_pos c17] at H
          have c17b0 : decide (x43_3 < (l1.length : Int)) = true := decide_eq_true c17
          clear c17
          by_cases c18 : 0 ≤ x43_3
          ·rw [if_pos c18] at H
           have c18b0 : decide (0 ≤ x43_3) = true := decide_eq_true c18
           clear c18
           by_cases c19 : x43_3 < (l1.length : Int)
           ·rw [if_pos c19] at H
            have c19b0 : decide (x43_3 < (l1.length : Int)) = true := decide_eq_true c19
            clear c19
            by_cases c20 : 0 ≤ x8_3
            ·rw [if_pos c20] at H
             have c20b0 := eq_true c20
             have c20b1 : decide (0 ≤ x8_3) = true := decide_eq_true c20
             clear c20
             by_cases c21 : x8_3 ≤ ((rd_T52 l1 x43_3).f0)
             ·rw [if_pos c21] at H
              have c21b0 := eq_true c21
              have c21b1 : decide (x8_3 ≤ ((rd_T52 l1 x43_3).f0)) = true := decide_eq_true c21
              clear c21
              by_cases c22 : ((rd_T52 l1 x43_3).f0) ≤ (l0.length : Int)
              ·rw [if_pos c22] at H
               have c22b0 := eq_true c22
               have c22b1 : decide (((rd_T52 l1 x43_3).f0) ≤ (l0.length : Int)) = true := decide_eq_true c22
               clear c22
               by_cases c23 : x7_3.length + ((l0.take (((rd_T52 l1 x43_3).f0) : Int).toNat).drop (x8_3 : Int).toNat).length < 8796093022208
               ·rw [if_pos c23] at H
                have LMc23 := Aside0.mk c23
                clear c23
                obtain ⟨y173, hy173⟩ : ∃ y_ : List ByteArray, y_ = (x7_3 ++ ((l0.take (((rd_T52 l1 x43_3).f0) : Int).toNat).drop (x8_3 : Int).toNat)) := ⟨_, rfl⟩
                replace H : (if y173.length + ((rd_T52 l1 x43_3).f2).length < 8796093022208 then (frame_Apply.l0 k3 l0 (y173 ++ ((rd_T52 l1 x43_3).f2)) (wrap64 (((rd_T52 l1 x43_3).f0) + ((rd_T52 l1 x43_3).f1))) l1 (l1.length : Int) (wrap64 (x43_3 + 1))) else (none)) = some (r1, r2) := by first | (rw [hy173]; with_reducible exact H) | (have H2_ := (Option.bind_some _ _).symm.trans H; rw [hy173]; with_reducible exact H2_) | (have H2_ := (Option.bind_some _ _).symm.trans H; with_reducible exact H2_) | with_reducible exact H | (rw [hy173]; exact H) | exact H
                have Ny173 := Aside0.mk hy173
                clear hy173
                by_cases c24 : y173.length + ((rd_T52 l1 x43_3).f2).length < 8796093022208
                ·rw [if_pos c24] at H
                 have LMc24 := Aside0.mk c24
                 clear c24
                 obtain ⟨y176, hy176⟩ : ∃ y_ : List ByteArray, y_ = (y173 ++ ((rd_T52 l1 x43_3).f2)) := ⟨_, rfl⟩
                 replace H : (frame_Apply.l0 k3 l0 y176 (wrap64 (((rd_T52 l1 x43_3).f0) + ((rd_T52 l1 x43_3).f1))) l1 (l1.length : Int) (wrap64 (x43_3 + 1))) = some (r1, r2) := by first | (rw [hy176]; with_reducible exact H) | (have H2_ := (Option.bind_some _ _).symm.trans H; rw [hy176]; with_reducible exact H2_) | (have H2_ := (Option.bind_some _ _).symm.trans H; with_reducible exact H2_) | with_reducible exact H | (rw [hy176]; exact H) | exact H
                 have Ny176 := Aside0.mk hy176
                 clear hy176
                 have H' := Aside0.mk H
                 clear H
                 have p170 : 0 ≤ (x43_3 : Int) := of_decide_eq_true (by first | (with_reducible assumption) | assumption)
                 have q170 : x43_3 < (l1.length : Int) := of_decide_eq_true (by first | (with_reducible assumption) | assumption)
                 obtain ⟨ad170, A170_2, c170_2, e170, hx170_0, hx170_1, hx170_2, hl170_2, hi170_2⟩ := at_T52 HR1.out x43_3 p170 q170
                 cases e170
                 replace hx170_0 := (HB.out.cell (World.block_lt_of_cell? w _ hx170_0)).trans hx170_0
                 replace hx170_1 := (HB.out.cell (World.block_lt_of_cell? w _ hx170_1)).trans hx170_1
                 replace hx170_2 := (HB.out.cell (World.block_lt_of_cell? w _ hx170_2)).trans hx170_2
                 have HR170_2 := Aside0.mk hi170_2
                 have HC170_2 := Aside0.mk hl170_2
                 clear hi170_2 hl170_2
                 replace p170 := eq_true p170
                 replace q170 := eq_true q170
                 try go_wp2_with (first | ((with_reducible refine gate_dst (N := 10) rfl ?_); (try (refine gate_guard (by rfl) ?_; dsimp only)); refine box_event ?hg (N := 10) ?hd (cs := #[.int .i64 0, .int .i64 0, .slice none 0 0]) (t := 52) ?hr ?_; (case hd => rfl); (case hg => rfl); (case hr => first | (go_simp; done) | (go_simp; rfl)); intro gb171 hg w25 hbox hb; have n0_ := Aside0.mk (Kd.R_below (by (with_reducible repeat (first | apply Kd.R_alloc | apply Kd.R_drewN | apply Kd.R_drew)); exact HO_7.out) hb); have n1_ := Aside0.mk (below_step (by repeat (first | (with_reducible first | exact HB.out | apply below_alloc | apply pw_below_drewN | apply below_drew1) | exact HB.out)) hb); have n2_ := Aside0.mk (hbox); have n3_ := Aside0.mk ((by rw [hg]; exact (below_size (by repeat (first | (with_reducible first | exact HB.out | apply below_alloc | apply pw_below_drewN | apply below_drew1) | exact HB.out))) : w.heap.size ≤ gb171)); have n4_ := Aside0.mk ((by rw [hg]; exact (below_size (by repeat (first | (with_reducible first | exact HB.out | apply below_alloc | apply pw_below_drewN | apply below_drew1) | exact HB.out))) : w.heap.size ≤ gb171)); clear HO_7; clear HB; have HO_7 := n0_; have HB := n1_; have BK171 := n2_; have GW171 := n3_; have GE171 := n4_; clear n0_ n1_ n2_ n3_ n4_; clear hb hbox hg; have hcz26_0 : w25.cell? ⟨gb171, 0, none⟩ = some (.int .i64 0) := (blk_cell BK171.out 0).trans rfl; have hcz26_1 : w25.cell? ⟨gb171, 1, none⟩ = some (.int .i64 0) := (blk_cell BK171.out 1).trans rfl; have hcz26_2 : w25.cell? ⟨gb171, 2, none⟩ = some (.slice none 0 0) := (blk_cell BK171.out 2).trans rfl; have hfz26_0 := blk_frozen BK171.out 0; have hfz26_1 := blk_frozen BK171.out 1; have hfz26_2 := blk_frozen BK171.out 2))
                 have n0_ : Aside0 (Kd.R Kd.string 9 (((w25.setCell ⟨gb171, 0, none⟩ (.int .i64 ((rd_T52 l1 x43_3).f0))).setCell ⟨gb171, 1, none⟩ (.int .i64 ((rd_T52 l1 x43_3).f1))).setCell ⟨gb171, 2, none⟩ (.slice A170_2 ((rd_T52 l1 x43_3).f2).length c170_2)) w.heap.size (fun _ => True) u7 x7_3) := ⟨by (with_reducible repeat (first | apply Kd.R_alloc | apply Kd.R_drewN | apply Kd.R_drew)); exact Kd.R_mono (Kd.R_far (p := ⟨gb171, 2, none⟩) (Kd.R_far (p := ⟨gb171, 1, none⟩) (Kd.R_far (p := ⟨gb171, 0, none⟩) (Kd.R_types HO_7.out BK171.out (by decide)) (fun _ hk => hk.2) (.int .i64 ((rd_T52 l1 x43_3).f0))) (fun _ hk => hk.2) (.int .i64 ((rd_T52 l1 x43_3).f1))) (fun _ hk => hk.2) (.slice A170_2 ((rd_T52 l1 x43_3).f2).length c170_2)) (fun _ hk => trivial)⟩
                 have n1_ : Aside0 ((((w25.setCell ⟨gb171, 0, none⟩ (.int .i64 ((rd_T52 l1 x43_3).f0))).setCell ⟨gb171, 1, none⟩ (.int .i64 ((rd_T52 l1 x43_3).f1))).setCell ⟨gb171, 2, none⟩ (.slice A170_2 ((rd_T52 l1 x43_3).f2).length c170_2)).heap[gb171]? = some (.cells #[.int .i64 ((rd_T52 l1 x43_3).f0), .int .i64 ((rd_T52 l1 x43_3).f1), .slice A170_2 ((rd_T52 l1 x43_3).f2).length c170_2] 52 (0, 0))) := ⟨by (with_reducible repeat (first | refine blk_drewN ?_ _ | refine blk_drew ?_ | refine blk_alloc ?_ _)); refine blk_put (cs := #[.int .i64 ((rd_T52 l1 x43_3).f0), .int .i64 ((rd_T52 l1 x43_3).f1), .slice none 0 0]) ?_ 2 _ rfl; (with_reducible repeat (first | refine blk_drewN ?_ _ | refine blk_drew ?_ | refine blk_alloc ?_ _)); refine blk_put (cs := #[.int .i64 ((rd_T52 l1 x43_3).f0), .int .i64 0, .slice none 0 0]) ?_ 1 _ rfl; (with_reducible repeat (first | refine blk_drewN ?_ _ | refine blk_drew ?_ | refine blk_alloc ?_ _)); refine blk_put (cs := #[.int .i64 0, .int .i64 0, .slice none 0 0]) ?_ 0 _ rfl; (with_reducible repeat (first | refine blk_drewN ?_ _ | refine blk_drew ?_ | refine blk_alloc ?_ _)); exact BK171.out⟩
                 have n2_ : Aside0 (Below w.heap.size w (((w25.setCell ⟨gb171, 0, none⟩ (.int .i64 ((rd_T52 l1 x43_3).f0))).setCell ⟨gb171, 1, none⟩ (.int .i64 ((rd_T52 l1 x43_3).f1))).setCell ⟨gb171, 2, none⟩ (.slice A170_2 ((rd_T52 l1 x43_3).f2).length c170_2))) := ⟨by repeat (first | (with_reducible first | exact HB.out | apply below_alloc | apply pw_below_drewN | apply below_drew1 | refine below_set ?_ GE171.out) | exact HB.out)⟩
                 (try clear HO_7)
                 (try clear BK171)
                 (try clear HB)
                 generalize (((w25.setCell ⟨gb171, 0, none⟩ (.int .i64 ((rd_T52 l1 x43_3).f0))).setCell ⟨gb171, 1, none⟩ (.int .i64 ((rd_T52 l1 x43_3).f1))).setCell ⟨gb171, 2, none⟩ (.slice A170_2 ((rd_T52 l1 x43_3).f2).length c170_2)) = w27 at n0_ n1_ n2_ ⊢
                 have HO_7 := n0_
                 have BK171 := n1_
                 have HB := n2_
                 clear n0_ n1_ n2_
                 have n0_ := Aside0.mk (Kd.R_drew HO_7.out)
                 have n1_ := Aside0.mk (blk_drew BK171.out)
                 have n2_ := Aside0.mk (below_drew1 HB.out)
                 clear HO_7
                 clear BK171
                 clear HB
                 have HO_7 := n0_
                 have BK171 := n1_
                 have HB := n2_
                 clear n0_ n1_ n2_
                 obtain ⟨i029, hi029, _, hsz29, _⟩ := info_parts info9
                 obtain ⟨A29, hcut29, hA29, hC29⟩ := print_mid_of (P := Tryd.prog) Value.string (⟨#[]⟩ : ByteArray) 28 9 .i64 .i64 Tryd.underlying28 hi029 hsz29 A0 c0 l0 x8_3 ((rd_T52 l1 x43_3).f0) (of_decide_eq_true (by first | (with_reducible assumption) | assumption)) (by first | omega | exact of_decide_eq_true (by first | (with_reducible assumption) | assumption)) (of_decide_eq_true (by first | (with_reducible assumption) | assumption)) HC0.out
                 have HR172 := Aside0.mk (Kd.C_of_reads (h1 := fun _ => rfl) (hA29 _ (Kd.reads_of_C HR0.out)))
                 have HC172 := Aside0.mk hC29
                 clear hA29 hC29 hi029 hsz29
                 refine start_ (n := 11) (S := fun w' => w'.cell? ⟨gb171, 0, none⟩ = some (.int .i64 ((rd_T52 l1 x43_3).f0)) ∧ w'.cell? ⟨gb171, 1, none⟩ = some (.int .i64 ((rd_T52 l1 x43_3).f1)) ∧ w'.cell? ⟨gb171, 2, none⟩ = some (.slice A170_2 ((rd_T52 l1 x43_3).f2).length c170_2)) (ds := []) #[false, false, false, false, false, false, false, false, false, false, false] (by kernel_rfl) rfl rfl ⟨(blk_cell BK171.out 0).trans rfl, (blk_cell BK171.out 1).trans rfl, (blk_cell BK171.out 2).trans rfl⟩ (fun hHeld => ?_); refine with_tabW frame_Apply.tab11 frame_Apply.bits11 (fun HT_ HW_ => ?_)
                 generalize w27.drew = w28 at HO_7 BK171 HB HR172 hHeld ⊢
                 refine pure_ (i := 0) (N := some 47) (v := ?_) (a' := ?_) #[true, false, false, false, false, false, false, false, false, false, false] rfl rfl (any_of HT_.out (by kernel_rfl)) (fun _ _ _ h => h) (Or.inl ⟨by rfl, ?_⟩) ?_ ?_
                 rotate_left
                 ·intro w'
                  go_simp
                  with_reducible rfl
                 rotate_left
                 ·simp only [Act.put, List.setIfInBounds_toArray, List.set_cons_zero, List.set_cons_succ, i64_w, i32_w]
                  rfl
                 refine pure_ (i := 1) (N := some 48) (v := ?_) (a' := ?_) #[true, true, false, false, false, false, false, false, false, false, false] rfl rfl (any_of HT_.out (by kernel_rfl)) (fun _ _ _ h => h) (Or.inl ⟨by rfl, ?_⟩) ?_ ?_
                 rotate_left
                 ·intro w'
                  go_simp
                  with_reducible rfl
                 rotate_left
                 ·simp only [Act.put, List.setIfInBounds_toArray, List.set_cons_zero, List.set_cons_succ, i64_w, i32_w]
                  rfl
                 refine pure_ (i := 2) (N := some 49) (v := ?_) (a' := ?_) #[true, true, true, false, false, false, false, false, false, false, false] rfl rfl (any_of HT_.out (by kernel_rfl)) (fun _ _ _ h => h) (Or.inl ⟨by rfl, ?_⟩) ?_ ?_
                 rotate_left
                 ·intro w'
                  go_simp
                  with_reducible rfl
                 rotate_left
                 ·simp only [Act.put, List.setIfInBounds_toArray, List.set_cons_zero, List.set_cons_succ, i64_w, i32_w]
                  rfl
                 refine pure_ (i := 3) (N := some 50) (v := ?_) (a' := ?_) #[true, true, true, true, false, false, false, false, false, false, false] rfl rfl (any_of HT_.out (by kernel_rfl)) (fun _ _ _ h => h) (Or.inl ⟨by rfl, ?_⟩) ?_ ?_
                 rotate_left
                 ·intro w'
                  go_simp
                  with_reducible rfl
                 rotate_left
                 ·simp only [Act.put, List.setIfInBounds_toArray, List.set_cons_zero, List.set_cons_succ, i64_w, i32_w]
                  rfl
                 refine pure_ (i := 7) (N := some 54) (v := ?_) (a' := ?_) #[true, true, true, true, false, false, false, true, false, false, false] rfl rfl (any_of HT_.out (by kernel_rfl)) (fun _ _ _ h => h) (Or.inl ⟨by rfl, ?_⟩) ?_ ?_
                 rotate_left
                 ·intro w'
                  go_simp
                  with_reducible rfl
                 rotate_left
                 ·simp only [Act.put, List.setIfInBounds_toArray, List.set_cons_zero, List.set_cons_succ, i64_w, i32_w]
                  rfl
                 refine take_ (i := 4) (N := some 51) (v := ?_) (a' := ?_) #[true, true, true, true, true, false, false, true, false, false, false] rfl rfl (take_ofW HT_.out HW_.out (by kernel_rfl)) (fun _ _ _ h => h) (Or.inl ⟨by rfl, ?_⟩) hHeld ?_ ?_
                 rotate_left
                 ·rintro w' ⟨s0, s1, s2⟩
                  go_simp
                  with_reducible rfl
                 rotate_left
                 ·simp only [Act.put, List.setIfInBounds_toArray, List.set_cons_zero, List.set_cons_succ, i64_w, i32_w]
                  rfl
                 refine pure_ (i := 5) (N := some 52) (v := ?_) (a' := ?_) #[true, true, true, true, true, true, false, true, false, false, false] rfl rfl (any_of HT_.out (by kernel_rfl)) (fun _ _ _ h => h) (Or.inl ⟨by rfl, ?_⟩) ?_ ?_
                 rotate_left
                 ·intro w'
                  go_simp
                  with_reducible rfl
                 rotate_left
                 ·simp only [Act.put, List.setIfInBounds_toArray, List.set_cons_zero, List.set_cons_succ, i64_w, i32_w]
                  rfl
                 refine take_ (i := 8) (N := some 55) (v := ?_) (a' := ?_) #[true, true, true, true, true, true, false, true, true, false, false] rfl rfl (take_ofW HT_.out HW_.out (by kernel_rfl)) (fun _ _ _ h => h) (Or.inl ⟨by rfl, ?_⟩) hHeld ?_ ?_
                 rotate_left
                 ·rintro w' ⟨s0, s1, s2⟩
                  go_simp
                  with_reducible rfl
                 rotate_left
                 ·simp only [Act.put, List.setIfInBounds_toArray, List.set_cons_zero, List.set_cons_succ, i64_w, i32_w]
                  rfl
                 refine one_ (i := 6) (N := some 53) #[true, true, true, true, true, true, true, true, true, false, false] rfl rfl (one_of HT_.out (by kernel_rfl)) (by decide) (fun K hK => ?_)
                 refine Kd.R_append_rows_step Kd.string (w0 := w) w.heap.size (by rfl) (.tmp 47) (.tmp 52) 28 9 (.string ⟨#[]⟩) 16 rfl Tryd.underlying28 info9 rfl (by decide) (by omega) u7 x7_3 ((l0.take (((rd_T52 l1 x43_3).f0) : Int).toNat).drop (x8_3 : Int).toNat) _ _ _ (fun _ => True) (fun _ => False) rfl rfl ?aO ?aR (fun _ _ h => h) (fun _ h => h.elim) ?aF ?aB ?aS ?aL ?_
                 (case aR => first | (rw [← show ((l0.take (((rd_T52 l1 x43_3).f0) : Int).toNat).drop (x8_3 : Int).toNat).length = (((rd_T52 l1 x43_3).f0).toNat - x8_3.toNat) from (by rw [List.length_drop, List.length_take]; have h_ : (((rd_T52 l1 x43_3).f0) : Int) ≤ (l0.length : Int) := of_decide_eq_true (by first | (with_reducible assumption) | assumption); omega)]; repeat (first | exact (Kd.C_below HR172.out HB.out) | (with_reducible refine Kd.C_alloc ?_ _) | (with_reducible refine Kd.C_drewN ?_ _) | (with_reducible refine Kd.C_drew ?_))) | (repeat (first | exact (Kd.C_below HR172.out HB.out) | (with_reducible refine Kd.C_alloc ?_ _) | (with_reducible refine Kd.C_drewN ?_ _) | (with_reducible refine Kd.C_drew ?_))))
                 (case aB => exact (by repeat (first | (with_reducible first | exact HB.out | apply below_alloc | apply pw_below_drewN | apply below_drew1 | refine below_set ?_ GE171.out) | exact HB.out)))
                 (case aF => exact (fun _ _ => trivial))
                 (case aO => exact (by (with_reducible repeat (first | apply Kd.R_alloc | apply Kd.R_drewN | apply Kd.R_drew)); exact HO_7.out))
                 (case aS => exact (below_size (by repeat (first | (with_reducible first | exact HB.out | apply below_alloc | apply pw_below_drewN | apply below_drew1 | refine below_set ?_ GE171.out) | exact HB.out))))
                 (case aL => have := LMc23.out; have hlx_ := (show ((l0.take (((rd_T52 l1 x43_3).f0) : Int).toNat).drop (x8_3 : Int).toNat).length = (((rd_T52 l1 x43_3).f0).toNat - x8_3.toNat) from (by rw [List.length_drop, List.length_take]; have h_ : (((rd_T52 l1 x43_3).f0) : Int) ≤ (l0.length : Int) := of_decide_eq_true (by first | (with_reducible assumption) | assumption); omega)); omega)
                 intro v174 w30 ho hb hg hat
                 rw [← Ny173.out] at ho
                 have n0_ := Aside0.mk (blk_grown (g := gb171) (o := .cells #[.int .i64 ((rd_T52 l1 x43_3).f0), .int .i64 ((rd_T52 l1 x43_3).f1), .slice A170_2 ((rd_T52 l1 x43_3).f2).length c170_2] 52 (0, 0)) (by (with_reducible repeat (first | refine blk_drewN ?_ _ | refine blk_drew ?_ | refine blk_alloc ?_ _)); exact BK171.out) hg (Kd.R_ne HO_7.out BK171.out (by decide)))
                 have n1_ := Aside0.mk (hb)
                 have n2_ := Aside0.mk (ho)
                 clear BK171
                 clear HB
                 clear HO_7
                 have BK171 := n0_
                 have HB := n1_
                 have HO175 := n2_
                 clear n0_ n1_ n2_
                 clear ho hb hg hat
                 refine hK.out _ _ ⟨(blk_cell BK171.out 0).trans rfl, (blk_cell BK171.out 1).trans rfl, (blk_cell BK171.out 2).trans rfl⟩ (fun hHeld => ?_)
                 clear hK K
                 refine norm_ (a' := ?_) ?_ ?_
                 rotate_left
                 ·show Act.put _ (some 53) _ = _
                  simp only [Act.put, List.setIfInBounds_toArray, List.set_cons_zero, List.set_cons_succ, i64_w, i32_w]
                  rfl
                 refine one_ (i := 9) (N := some 56) #[true, true, true, true, true, true, true, true, true, true, false] rfl rfl (one_of HT_.out (by kernel_rfl)) (by decide) (fun K hK => ?_)
                 refine Kd.R_append_rows_step Kd.string (w0 := w) w.heap.size (by rfl) (.tmp 53) (.tmp 55) 28 9 (.string ⟨#[]⟩) 16 rfl Tryd.underlying28 info9 rfl (by decide) (by omega) v174 y173 ((rd_T52 l1 x43_3).f2) _ _ _ (fun _ => True) (fun _ => False) rfl rfl ?aO ?aR (fun _ _ h => h) (fun _ h => h.elim) ?aF ?aB ?aS ?aL ?_
                 (case aR => repeat (first | exact (Kd.C_below HR170_2.out HB.out) | (with_reducible refine Kd.C_alloc ?_ _) | (with_reducible refine Kd.C_drewN ?_ _) | (with_reducible refine Kd.C_drew ?_)))
                 (case aB => exact (by repeat (first | (with_reducible first | exact HB.out | apply below_alloc | apply pw_below_drewN | apply below_drew1 | refine below_set ?_ GE171.out) | exact HB.out)))
                 (case aF => exact (fun _ _ => trivial))
                 (case aO => exact (by (with_reducible repeat (first | apply Kd.R_alloc | apply Kd.R_drewN | apply Kd.R_drew)); exact HO175.out))
                 (case aS => exact (below_size (by repeat (first | (with_reducible first | exact HB.out | apply below_alloc | apply pw_below_drewN | apply below_drew1 | refine below_set ?_ GE171.out) | exact HB.out))))
                 (case aL => have := LMc24.out; omega)
                 intro v177 w31 ho hb hg hat
                 rw [← Ny176.out] at ho
                 have n0_ := Aside0.mk (blk_grown (g := gb171) (o := .cells #[.int .i64 ((rd_T52 l1 x43_3).f0), .int .i64 ((rd_T52 l1 x43_3).f1), .slice A170_2 ((rd_T52 l1 x43_3).f2).length c170_2] 52 (0, 0)) (by (with_reducible repeat (first | refine blk_drewN ?_ _ | refine blk_drew ?_ | refine blk_alloc ?_ _)); exact BK171.out) hg (Kd.R_ne HO175.out BK171.out (by decide)))
                 have n1_ := Aside0.mk (hb)
                 have n2_ := Aside0.mk (ho)
                 clear BK171
                 clear HB
                 clear HO175
                 have BK171 := n0_
                 have HB := n1_
                 have HO178 := n2_
                 clear n0_ n1_ n2_
                 clear ho hb hg hat
                 refine hK.out _ _ ⟨(blk_cell BK171.out 0).trans rfl, (blk_cell BK171.out 1).trans rfl, (blk_cell BK171.out 2).trans rfl⟩ (fun hHeld => ?_)
                 clear hK K
                 refine norm_ (a' := ?_) ?_ ?_
                 rotate_left
                 ·show Act.put _ (some 56) _ = _
                  simp only [Act.put, List.setIfInBounds_toArray, List.set_cons_zero, List.set_cons_succ, i64_w, i32_w]
                  rfl
                 refine pure_ (i := 10) (N := some 7) (v := ?_) (a' := ?_) #[true, true, true, true, true, true, true, true, true, true, true] rfl rfl (any_of HT_.out (by kernel_rfl)) (fun _ _ _ h => h) (Or.inl ⟨by rfl, ?_⟩) ?_ ?_
                 rotate_left
                 ·intro w'
                  go_simp
                  with_reducible rfl
                 rotate_left
                 ·simp only [Act.put, List.setIfInBounds_toArray, List.set_cons_zero, List.set_cons_succ, i64_w, i32_w]
                  rfl
                 refine done_ (done_of HT_.out (by kernel_rfl)) ?_
                 have hcz32_0 : w31.cell? ⟨gb171, 0, none⟩ = some (.int .i64 ((rd_T52 l1 x43_3).f0)) := (blk_cell BK171.out 0).trans rfl
                 have hcz32_1 : w31.cell? ⟨gb171, 1, none⟩ = some (.int .i64 ((rd_T52 l1 x43_3).f1)) := (blk_cell BK171.out 1).trans rfl
                 have hcz32_2 : w31.cell? ⟨gb171, 2, none⟩ = some (.slice A170_2 ((rd_T52 l1 x43_3).f2).length c170_2) := (blk_cell BK171.out 2).trans rfl
                 have hfz32_0 := blk_frozen BK171.out 0
                 have hfz32_1 := blk_frozen BK171.out 1
                 have hfz32_2 := blk_frozen BK171.out 2
                 try go_wp2
                 go_roundg k3
                 case measure => have := HJ2.out; have := HJ8.out; have := HK3.out; omega
                 case rel => exact ⟨(y176), (wrap64 (((rd_T52 l1 x43_3).f0) + ((rd_T52 l1 x43_3).f1))), (wrap64 (x43_3 + 1)), (by first | rfl | (simp; done) | (simp [*]; done)), (by first | rfl | (simp; done) | (simp [*]; done)), H', ⟨by have := HJ2.out; have := HJ8.out; have := HK3.out; omega⟩, ⟨by (with_reducible repeat (first | apply Kd.R_alloc | apply Kd.R_drewN | apply Kd.R_drew)); exact HO178.out⟩, ⟨by repeat (first | (with_reducible first | exact HB.out | apply below_alloc | apply pw_below_drewN | apply below_drew1 | refine below_set ?_ GE171.out) | exact HB.out)⟩⟩
                ·rw [if_neg c24] at H
                 exact absurd H (by simp)
               ·rw [if_neg c23] at H
                exact absurd H (by simp)
              ·rw [if_neg c22] at H
               exact absurd H (by simp)
             ·rw [if_neg c21] at H
              exact absurd H (by simp)
            ·rw [if_neg c20] at H
             exact absurd H (by simp)
           ·rw [if_neg c19] at H
            exact absurd H (by simp)
          ·rw [if_neg c18] at H
           exact absurd H (by simp)
         ·rw [if_neg c17] at H
          have c17b0 : decide (x43_3 < (l1.length : Int)) = false := decide_eq_false c17
          clear c17
          by_cases c33 : 0 ≤ x8_3
          ·rw [if_pos c33] at H
           have c33b0 := eq_true c33
           have c33b1 : decide (0 ≤ x8_3) = true := decide_eq_true c33
           clear c33
           by_cases c34 : x8_3 ≤ (l0.length : Int)
           ·rw [if_pos c34] at H
            have c34b0 := eq_true c34
            have c34b1 : decide (x8_3 ≤ (l0.length : Int)) = true := decide_eq_true c34
            clear c34
            by_cases c35 : x7_3.length + (l0.drop (x8_3 : Int).toNat).length < 8796093022208
            ·rw [if_pos c35] at H
             have LMc35 := Aside0.mk c35
             clear c35
             obtain ⟨y180, hy180⟩ : ∃ y_ : List ByteArray, y_ = (x7_3 ++ (l0.drop (x8_3 : Int).toNat)) := ⟨_, rfl⟩
             replace H : (if (y180.length : Int) > 4096 then (some (([] : List ByteArray), 6)) else (some (y180, 0))) = some (r1, r2) := by first | (rw [hy180]; with_reducible exact H) | (have H2_ := (Option.bind_some _ _).symm.trans H; rw [hy180]; with_reducible exact H2_) | (have H2_ := (Option.bind_some _ _).symm.trans H; with_reducible exact H2_) | with_reducible exact H | (rw [hy180]; exact H) | exact H
             have Ny180 := Aside0.mk hy180
             clear hy180
             by_cases c36 : (y180.length : Int) > 4096
             ·rw [if_pos c36] at H
              have c36b0 : decide (4096 < (y180.length : Int)) = true := decide_eq_true c36
              have c36b1 : decide (4096 < y180.length) = true := decide_eq_true (by omega)
              clear c36
              simp only [Option.some.injEq, Prod.mk.injEq] at H
              obtain ⟨rfl, rfl⟩ := H
              obtain ⟨i037, hi037, _, hsz37, _⟩ := info_parts info9
              obtain ⟨A37, hcut37, hA37, hC37⟩ := print_drop_of (P := Tryd.prog) Value.string (⟨#[]⟩ : ByteArray) 28 9 .i64 Tryd.underlying28 hi037 hsz37 A0 c0 l0 x8_3 (of_decide_eq_true (by first | (with_reducible assumption) | assumption)) (of_decide_eq_true (by first | (with_reducible assumption) | assumption)) HC0.out
              have HR179 := Aside0.mk (Kd.C_of_reads (h1 := fun _ => rfl) (hA37 _ (Kd.reads_of_C HR0.out)))
              have HC179 := Aside0.mk hC37
              clear hA37 hC37 hi037 hsz37
              go_wp2_with (first | ((with_reducible refine gate_builtin (b := .append) (xs := #[.tmp 63, .tmp 66]) rfl ?_); (try (refine gate_guard (by rfl) ?_; dsimp only)); at_builtin; refine Kd.R_append_rows Kd.string (w0 := w) w.heap.size rfl (.tmp 63) (.tmp 66) 28 9 (.string ⟨#[]⟩) 16 rfl Tryd.underlying28 info9 rfl (by decide) (by omega) u7 x7_3 (l0.drop (x8_3 : Int).toNat) _ _ _ (fun _ => True) (fun _ => False) rfl rfl ?aO ?aR (fun _ _ h => h) (fun _ h => h.elim) ?aF ?aB ?aS ?aL ?_; (case aR => first | (rw [← show (l0.drop (x8_3 : Int).toNat).length = (l0.length - x8_3.toNat) from List.length_drop]; repeat (first | exact (Kd.C_below HR179.out HB.out) | (with_reducible refine Kd.C_alloc ?_ _) | (with_reducible refine Kd.C_drewN ?_ _) | (with_reducible refine Kd.C_drew ?_))) | (repeat (first | exact (Kd.C_below HR179.out HB.out) | (with_reducible refine Kd.C_alloc ?_ _) | (with_reducible refine Kd.C_drewN ?_ _) | (with_reducible refine Kd.C_drew ?_)))); (case aB => exact (by repeat (first | (with_reducible first | exact HB.out | apply below_alloc | apply pw_below_drewN | apply below_drew1) | exact HB.out))); (case aF => exact (fun _ _ => trivial)); (case aO => exact (by (with_reducible repeat (first | apply Kd.R_alloc | apply Kd.R_drewN | apply Kd.R_drew)); exact HO_7.out)); (case aS => exact (below_size (by repeat (first | (with_reducible first | exact HB.out | apply below_alloc | apply pw_below_drewN | apply below_drew1) | exact HB.out)))); (case aL => have := LMc35.out; have hlx_ := (show (l0.drop (x8_3 : Int).toNat).length = (l0.length - x8_3.toNat) from List.length_drop); omega); intro v181 w38 ho hb hg hat; rw [← Ny180.out] at ho; have n0_ := Aside0.mk (hb); have n1_ := Aside0.mk (ho); clear HB; clear HO_7; have HB := n0_; have HO182 := n1_; clear n0_ n1_; clear ho hb hg hat; obtain ⟨Ao39, co39, eo39⟩ := Kd.R_slice HO182.out; subst eo39))
              go_ret2
              exact ⟨_, by first | rfl | (simp [errW_none, errW_some] <;> rfl) | (simp [*, errW_none, errW_some] <;> rfl), by first | exact Kd.R_nil _ _ _ _ _ | exact Kd.N_nil _ _ _ _ _ | exact Kd.V_nil _ _ _ _ _ | exact Kd.Q_nil _ _ _ _ _ | exact Kd.S_nil _ _ _ _ _, by repeat (first | (with_reducible first | exact HB.out | apply below_alloc | apply pw_below_drewN | apply below_drew1) | exact HB.out)⟩
             ·rw [if_neg c36] at H
              have c36b0 : decide (4096 < (y180.length : Int)) = false := decide_eq_false c36
              have c36b1 : decide (4096 < y180.length) = false := decide_eq_false (by omega)
              clear c36
              simp only [Option.some.injEq, Prod.mk.injEq] at H
              obtain ⟨rfl, rfl⟩ := H
              obtain ⟨i040, hi040, _, hsz40, _⟩ := info_parts info9
              obtain ⟨A40, hcut40, hA40, hC40⟩ := print_drop_of (P := Tryd.prog) Value.string (⟨#[]⟩ : ByteArray) 28 9 .i64 Tryd.underlying28 hi040 hsz40 A0 c0 l0 x8_3 (of_decide_eq_true (by first | (with_reducible assumption) | assumption)) (of_decide_eq_true (by first | (with_reducible assumption) | assumption)) HC0.out
              have HR179 := Aside0.mk (Kd.C_of_reads (h1 := fun _ => rfl) (hA40 _ (Kd.reads_of_C HR0.out)))
              have HC179 := Aside0.mk hC40
              clear hA40 hC40 hi040 hsz40
              go_wp2_with (first | ((with_reducible refine gate_builtin (b := .append) (xs := #[.tmp 63, .tmp 66]) rfl ?_); (try (refine gate_guard (by rfl) ?_; dsimp only)); at_builtin; refine Kd.R_append_rows Kd.string (w0 := w) w.heap.size rfl (.tmp 63) (.tmp 66) 28 9 (.string ⟨#[]⟩) 16 rfl Tryd.underlying28 info9 rfl (by decide) (by omega) u7 x7_3 (l0.drop (x8_3 : Int).toNat) _ _ _ (fun _ => True) (fun _ => False) rfl rfl ?aO ?aR (fun _ _ h => h) (fun _ h => h.elim) ?aF ?aB ?aS ?aL ?_; (case aR => first | (rw [← show (l0.drop (x8_3 : Int).toNat).length = (l0.length - x8_3.toNat) from List.length_drop]; repeat (first | exact (Kd.C_below HR179.out HB.out) | (with_reducible refine Kd.C_alloc ?_ _) | (with_reducible refine Kd.C_drewN ?_ _) | (with_reducible refine Kd.C_drew ?_))) | (repeat (first | exact (Kd.C_below HR179.out HB.out) | (with_reducible refine Kd.C_alloc ?_ _) | (with_reducible refine Kd.C_drewN ?_ _) | (with_reducible refine Kd.C_drew ?_)))); (case aB => exact (by repeat (first | (with_reducible first | exact HB.out | apply below_alloc | apply pw_below_drewN | apply below_drew1) | exact HB.out))); (case aF => exact (fun _ _ => trivial)); (case aO => exact (by (with_reducible repeat (first | apply Kd.R_alloc | apply Kd.R_drewN | apply Kd.R_drew)); exact HO_7.out)); (case aS => exact (below_size (by repeat (first | (with_reducible first | exact HB.out | apply below_alloc | apply pw_below_drewN | apply below_drew1) | exact HB.out)))); (case aL => have := LMc35.out; have hlx_ := (show (l0.drop (x8_3 : Int).toNat).length = (l0.length - x8_3.toNat) from List.length_drop); omega); intro v181 w41 ho hb hg hat; rw [← Ny180.out] at ho; have n0_ := Aside0.mk (hb); have n1_ := Aside0.mk (ho); clear HB; clear HO_7; have HB := n0_; have HO182 := n1_; clear n0_ n1_; clear ho hb hg hat; obtain ⟨Ao42, co42, eo42⟩ := Kd.R_slice HO182.out; subst eo42))
              go_ret2
              exact ⟨_, by first | rfl | (simp [errW_none, errW_some] <;> rfl) | (simp [*, errW_none, errW_some] <;> rfl), by (with_reducible repeat (first | apply Kd.R_alloc | apply Kd.R_drewN | apply Kd.R_drew)); exact HO182.out, by repeat (first | (with_reducible first | exact HB.out | apply below_alloc | apply pw_below_drewN | apply below_drew1) | exact HB.out)⟩
            ·rw [if_neg c35] at H
             exact absurd H (by simp)
           ·rw [if_neg c34] at H
            exact absurd H (by simp)
          ·rw [if_neg c33] at H
           exact absurd H (by simp)
end Go.Proofs.YtfpopmojlmpopaaDoor.G

end
section
namespace Go.Proofs.YtfpopmojlmpopaaDoor.H
open Go.RowKit Go.Proofs.YtfpopmojlmpopaaDoorW.PrintWords Go.Proofs.YtfpopmojlmpopaaDoorW.PrintLast Go.Proofs.YtfpopmojlmpopaaDoorW.PrintMore Go.Proofs.YtfpopmojlmpopaaDoor.G
set_option linter.unusedVariables false
set_option linter.unusedSimpArgs false
def aw21 : List Int := [108, 105, 52, 59, 105, 48, 59, 105, 51, 59, 105, 49, 59, 105, 50, 59, 108, 101, 108, 101, 101]
def aw25 : List Int := aw21 ++ digs (crcL 65535 aw21)
theorem aw_enc : frame_Encode.f 100 4 0 3 1 2 [] [] = some (aw25, 0) := by kernel_rfl
theorem aw_dec : frame_Decode.f 100 aw25 = some (4, 0, 3, 1, 2, [], [], 0) := by kernel_rfl
theorem aw_diff : frame_Diff.f 30 [⟨#[97]⟩, ⟨#[98]⟩] [⟨#[98]⟩, ⟨#[97]⟩] = some ([⟨0, 1, []⟩, ⟨2, 0, [⟨#[97]⟩]⟩], 0) := by kernel_rfl
theorem aw_apply : frame_Apply.f 30 [⟨#[97]⟩, ⟨#[98]⟩, ⟨#[99]⟩] [⟨1, 1, [⟨#[120]⟩]⟩] = some ([⟨#[97]⟩, ⟨#[120]⟩, ⟨#[99]⟩], 0) := by kernel_rfl
theorem aw_eq : frame_Equal.f 1 4 0 3 1 2 [] [] 4 0 3 1 2 [] [] = some true := by kernel_rfl
theorem aw_edits : salchowref49_SameEdits.f 30 [⟨0, 1, []⟩, ⟨2, 0, [⟨#[97]⟩]⟩] [⟨0, 1, []⟩, ⟨2, 0, [⟨#[97]⟩]⟩] = some true := by kernel_rfl
theorem aw_lines : salchowref49_SameLines.f 30 [⟨#[97]⟩, ⟨#[120]⟩, ⟨#[99]⟩] [⟨#[97]⟩, ⟨#[120]⟩, ⟨#[99]⟩] = some true := by kernel_rfl
theorem aw_sum : frame_Sum.f [49, 50, 51, 52, 53, 54, 55, 56, 57] = some 10673 := by kernel_rfl
theorem C_strs {W : World} {b : Nat} (l : List ByteArray) {fr : Nat × Nat} (hl : l.length ≤ 9223372036854775807) (h : W.heap[b]? = some (.cells (l.map Value.string).toArray 9 fr)) : Kd.C Kd.string W (some ⟨b, 0, none⟩) l.length l :=
 Kd.C_of_reads (enc := Value.string) (d := ByteArray.empty) (h1 := fun _ => rfl) ⟨rfl, hl, fun _ => ⟨_, rfl, fun j hj => by
  rw [add_plain, cell_of_row _ _ _ _ _ _ h]
  simp [List.getD, hj]⟩⟩
theorem C_eds {W : World} {b : Nat} (l : List S52) (cs : List (List Value)) {fr : Nat × Nat} (hl : l.length ≤ 9223372036854775807) (hcl : cs.length = l.length) (h : W.heap[b]? = some (.cells cs.flatten.toArray 52 fr))
  (hk : ∀ j (h1 : j < l.length) (h2 : j < cs.length), k52.K W l[j] cs[j]) (hf : ∀ j (h2 : j < cs.length) i u, cs[j][i]? = some u → cs.flatten[j * 3 + i]? = some u) : Kd.C k52 W (some ⟨b, 0, none⟩) l.length l := by
 refine ⟨rfl, hl, fun _ => ⟨_, rfl, fun j p hj => ?_⟩⟩
 obtain ⟨h1, rfl⟩ := List.getElem?_eq_some_iff.1 hj
 refine ⟨cs[j]'(by omega), k52.K_len (hk j h1 (by omega)), hk j h1 (by omega), fun i u hu => ?_⟩
 rw [add_plain, cell_of_row _ _ _ _ _ _ h, List.getElem?_toArray]
 exact hf j (by omega) i u hu
def salchowlaw49_awake.f : Option Bool := some true
set_option maxHeartbeats 8000000 in
set_option maxRecDepth 100000 in
theorem salchowlaw49_awake.calls (r : Bool) (w : World) (hLd : Laid w) (h : salchowlaw49_awake.f = some r) :
  Calls Tryd.prog 10 #[] w fun e w' => e = .returned (.bool r) ∧ Below w.heap.size w w' := by
 obtain rfl : true = r := Option.some.inj h
 clear h
 have HL := Lib.hid hLd
 clear hLd
 go_enter Tryd.func10, Tryd.ntmps10
 go_wp2_with fail
 have HB0 : Hid (Below w.heap.size w (w.alloc (Obj.cells #[.int .i64 4, .int .i64 0, .int .i64 3, .int .i64 1, .int .i64 2, .slice none 0 0, .slice none 0 0] 31))) := Lib.hid (below_alloc (Below.refl _ _) _)
 have HF0 : Hid ((w.alloc (Obj.cells #[.int .i64 4, .int .i64 0, .int .i64 3, .int .i64 1, .int .i64 2, .slice none 0 0, .slice none 0 0] 31)).heap[w.heap.size]? = some (.cells #[.int .i64 4, .int .i64 0, .int .i64 3, .int .i64 1, .int .i64 2, .slice none 0 0, .slice none 0 0] 31 (0, 0))) := Lib.hid (heap_alloc_new _ _)
 generalize w.alloc (Obj.cells #[.int .i64 4, .int .i64 0, .int .i64 3, .int .i64 1, .int .i64 2, .slice none 0 0, .slice none 0 0] 31) = w0 at HB0 HF0 ⊢
 refine (frame_Encode.calls 100 4 0 3 1 2 none 0 [] none 0 [] aw25 0 w0 (HL.out.below HB0.out) (Kd.C_nil _ _) (Nat.le_refl _) (Kd.C_nil _ _) (Nat.le_refl _) aw_enc).mono ?_
 rintro e w1 ⟨A1, c1, rfl, hc1, hC1, hb1⟩
 have HC1 := Lib.hid (And.intro hc1 hC1)
 have HB1 : Hid (Below w.heap.size w w1) := Lib.hid (below_step HB0.out hb1)
 have HF1 := Lib.hid ((hb1.block _ (blk_lt HF0.out)).trans HF0.out)
 clear hc1 hC1 hb1 HB0 HF0
 go_wp2_with fail
 refine (frame_Decode.calls 100 A1 c1 aw25 4 0 3 1 2 [] [] 0 w1 (HL.out.below HB1.out) HC1.out.2 HC1.out.1 aw_dec).mono ?_
 rintro e w2 ⟨v0, v1, rfl, hr0, hr1, hb2⟩
 obtain ⟨A2, c2, rfl, hc2, hC2⟩ := Kd.R_reads hr0
 obtain ⟨A3, c3, rfl, hc3, hC3⟩ := Kd.R_reads hr1
 have HR2 := Lib.hid (And.intro hc2 hC2)
 have HR3 := Lib.hid (And.intro hc3 hC3)
 have HB2 : Hid (Below w.heap.size w w2) := Lib.hid (below_step HB1.out hb2)
 have HC2 := Lib.hid (Kd.C_below HC1.out.2 hb2)
 have HF2 := Lib.hid ((hb2.block _ (blk_lt HF1.out)).trans HF1.out)
 clear hr0 hr1 hc2 hC2 hc3 hC3 hb2 HB1 HF1
 go_wp2_with fail
 have HS0 : Hid (w2.heap.size = w2.heap.size) := Lib.hid rfl
 obtain ⟨W3, hW3⟩ : ∃ W3, w2.alloc (Obj.cells #[.int .i64 4, .int .i64 0, .int .i64 3, .int .i64 1, .int .i64 2, .slice A2 0 c2, .slice A3 0 c3] 31) = W3 := ⟨_, rfl⟩
 have HB3 : Hid (Below w.heap.size w W3) := Lib.hid (by rw [← hW3]; exact below_alloc HB2.out _)
 have HF3 := Lib.hid (show W3.heap[w.heap.size]? = some (.cells #[.int .i64 4, .int .i64 0, .int .i64 3, .int .i64 1, .int .i64 2, .slice none 0 0, .slice none 0 0] 31 (0, 0)) from by rw [← hW3]; exact blk_alloc HF2.out _)
 have HG3 : Hid (W3.heap[w2.heap.size]? = some (.cells #[.int .i64 4, .int .i64 0, .int .i64 3, .int .i64 1, .int .i64 2, .slice A2 0 c2, .slice A3 0 c3] 31 (0, 0))) := Lib.hid (by rw [← hW3]; exact heap_alloc_new _ _)
 have HZ3 : Hid (W3.heap.size = w2.heap.size + 1) := Lib.hid (by rw [← hW3]; simp)
 have hz3 := HZ3.out
 simp only [hW3]
 have hA : ((W3.alloc (Obj.cells #[.string ⟨#[97]⟩, .string ⟨#[98]⟩] 9)).alloc (Obj.cells #[.string ⟨#[98]⟩, .string ⟨#[97]⟩] 9)).heap[w2.heap.size + 1]? = some (.cells #[.string ⟨#[97]⟩, .string ⟨#[98]⟩] 9 (0, 0)) := by rw [← hz3]; exact blk_alloc (heap_alloc_new _ _) _
 have hB : ((W3.alloc (Obj.cells #[.string ⟨#[97]⟩, .string ⟨#[98]⟩] 9)).alloc (Obj.cells #[.string ⟨#[98]⟩, .string ⟨#[97]⟩] 9)).heap[w2.heap.size + 1 + 1]? = some (.cells #[.string ⟨#[98]⟩, .string ⟨#[97]⟩] 9 (0, 0)) := by
  have h := heap_alloc_new (W3.alloc (Obj.cells #[.string ⟨#[97]⟩, .string ⟨#[98]⟩] 9)) (Obj.cells #[.string ⟨#[98]⟩, .string ⟨#[97]⟩] 9)
  rwa [show (W3.alloc (Obj.cells #[.string ⟨#[97]⟩, .string ⟨#[98]⟩] 9)).heap.size = w2.heap.size + 1 + 1 from by simp [hz3]] at h
 refine (frame_Diff.calls 30 (some ⟨w2.heap.size + 1, 0, none⟩) 2 [⟨#[97]⟩, ⟨#[98]⟩] (some ⟨w2.heap.size + 1 + 1, 0, none⟩) 2 [⟨#[98]⟩, ⟨#[97]⟩] _ 0 _ (C_strs _ (by decide) hA) (Nat.le_refl _) (C_strs _ (by decide) hB) (Nat.le_refl _) aw_diff).mono ?_
 rintro e w4 ⟨v4, rfl, hS4, hb4⟩
 obtain ⟨A4, c4, rfl, hc4, hC4⟩ := Kd.S_reads hS4
 have HR4 := Lib.hid (And.intro hc4 hC4)
 have HB4 : Hid (Below w.heap.size w w4) := Lib.hid (below_step (below_alloc (below_alloc HB3.out _) _) hb4)
 have HF4 := Lib.hid ((hb4.block _ (blk_lt (blk_alloc (blk_alloc HF3.out _) _))).trans (blk_alloc (blk_alloc HF3.out _) _))
 have HG4 := Lib.hid ((hb4.block _ (blk_lt (blk_alloc (blk_alloc HG3.out _) _))).trans (blk_alloc (blk_alloc HG3.out _) _))
 have HU : Hid (Below w2.heap.size w2 w4) := Lib.hid (by
  have h3 : Below w2.heap.size w2 W3 := by rw [← hW3]; exact below_alloc (Below.refl _ _) _
  exact below_step (below_alloc (below_alloc h3 _) _) hb4)
 have HD2 := Lib.hid (Kd.C_below HC2.out HU.out)
 have HR24 := Lib.hid (Kd.C_below HR2.out.2 HU.out)
 have HR34 := Lib.hid (Kd.C_below HR3.out.2 HU.out)
 clear hS4 hc4 hC4 hb4 hA hB hz3 hW3 HF3 HG3 HZ3 HB3 HF2 HB2 HC2
 generalize w2.heap.size = g2 at HG4 ⊢
 go_wp2_with fail
 have hP : (((w4.alloc (Obj.cells #[.string ⟨#[97]⟩, .string ⟨#[98]⟩, .string ⟨#[99]⟩] 9)).alloc (Obj.cells #[.string ⟨#[120]⟩] 9)).alloc (Obj.cells #[.int .i64 1, .int .i64 1, .slice (some ⟨w4.heap.size + 1, 0, none⟩) 1 1] 52)).heap[w4.heap.size]? = some (.cells #[.string ⟨#[97]⟩, .string ⟨#[98]⟩, .string ⟨#[99]⟩] 9 (0, 0)) := blk_alloc (blk_alloc (heap_alloc_new _ _) _) _
 have hQ : (((w4.alloc (Obj.cells #[.string ⟨#[97]⟩, .string ⟨#[98]⟩, .string ⟨#[99]⟩] 9)).alloc (Obj.cells #[.string ⟨#[120]⟩] 9)).alloc (Obj.cells #[.int .i64 1, .int .i64 1, .slice (some ⟨w4.heap.size + 1, 0, none⟩) 1 1] 52)).heap[w4.heap.size + 1]? = some (.cells #[.string ⟨#[120]⟩] 9 (0, 0)) := by
  have h := heap_alloc_new (w4.alloc (Obj.cells #[.string ⟨#[97]⟩, .string ⟨#[98]⟩, .string ⟨#[99]⟩] 9)) (Obj.cells #[.string ⟨#[120]⟩] 9)
  rw [show (w4.alloc (Obj.cells #[.string ⟨#[97]⟩, .string ⟨#[98]⟩, .string ⟨#[99]⟩] 9)).heap.size = w4.heap.size + 1 from by simp] at h
  exact blk_alloc h _
 have hR : (((w4.alloc (Obj.cells #[.string ⟨#[97]⟩, .string ⟨#[98]⟩, .string ⟨#[99]⟩] 9)).alloc (Obj.cells #[.string ⟨#[120]⟩] 9)).alloc (Obj.cells #[.int .i64 1, .int .i64 1, .slice (some ⟨w4.heap.size + 1, 0, none⟩) 1 1] 52)).heap[w4.heap.size + 1 + 1]? = some (.cells #[.int .i64 1, .int .i64 1, .slice (some ⟨w4.heap.size + 1, 0, none⟩) 1 1] 52 (0, 0)) := by
  have h := heap_alloc_new ((w4.alloc (Obj.cells #[.string ⟨#[97]⟩, .string ⟨#[98]⟩, .string ⟨#[99]⟩] 9)).alloc (Obj.cells #[.string ⟨#[120]⟩] 9)) (Obj.cells #[.int .i64 1, .int .i64 1, .slice (some ⟨w4.heap.size + 1, 0, none⟩) 1 1] 52)
  rwa [show ((w4.alloc (Obj.cells #[.string ⟨#[97]⟩, .string ⟨#[98]⟩, .string ⟨#[99]⟩] 9)).alloc (Obj.cells #[.string ⟨#[120]⟩] 9)).heap.size = w4.heap.size + 1 + 1 from by simp] at h
 have hB8 : Below w.heap.size w (((w4.alloc (Obj.cells #[.string ⟨#[97]⟩, .string ⟨#[98]⟩, .string ⟨#[99]⟩] 9)).alloc (Obj.cells #[.string ⟨#[120]⟩] 9)).alloc (Obj.cells #[.int .i64 1, .int .i64 1, .slice (some ⟨w4.heap.size + 1, 0, none⟩) 1 1] 52)) := below_alloc (below_alloc (below_alloc HB4.out _) _) _
 refine (frame_Apply.calls 30 (some ⟨w4.heap.size, 0, none⟩) 3 [⟨#[97]⟩, ⟨#[98]⟩, ⟨#[99]⟩] (some ⟨w4.heap.size + 1 + 1, 0, none⟩) 1 [⟨1, 1, [⟨#[120]⟩]⟩] _ 0 _ (C_strs _ (by decide) hP) (Nat.le_refl _) (C_eds [⟨1, 1, [⟨#[120]⟩]⟩] [[.int .i64 1, .int .i64 1, .slice (some ⟨w4.heap.size + 1, 0, none⟩) 1 1]] (by decide) rfl hR (fun j h1 h2 => by
  obtain rfl : j = 0 := by simp at h1; omega
  exact k52_mk _ ⟨1, 1, [⟨#[120]⟩]⟩ (Nat.le_refl _) (C_strs [⟨#[120]⟩] (by decide) hQ)) (fun j h2 i u hu => by
  obtain rfl : j = 0 := by simp at h2; omega
  simpa using hu)) (Nat.le_refl _) aw_apply).mono ?_
 rintro e w5 ⟨v5, rfl, hr5, hb5⟩
 obtain ⟨A5, c5, rfl, hc5, hC5⟩ := Kd.R_reads hr5
 have HR5 := Lib.hid (And.intro hc5 hC5)
 have hU : Below w4.heap.size w4 (((w4.alloc (Obj.cells #[.string ⟨#[97]⟩, .string ⟨#[98]⟩, .string ⟨#[99]⟩] 9)).alloc (Obj.cells #[.string ⟨#[120]⟩] 9)).alloc (Obj.cells #[.int .i64 1, .int .i64 1, .slice (some ⟨w4.heap.size + 1, 0, none⟩) 1 1] 52)) := below_alloc (below_alloc (below_alloc (Below.refl _ _) _) _) _
 have HV : Hid (Below w4.heap.size w4 w5) := Lib.hid (below_step hU hb5)
 have HB5 : Hid (Below w.heap.size w w5) := Lib.hid (below_step HB4.out HV.out)
 have HF5 := Lib.hid ((HV.out.block _ (blk_lt HF4.out)).trans HF4.out)
 have HG5 := Lib.hid ((HV.out.block _ (blk_lt HG4.out)).trans HG4.out)
 have HD5 := Lib.hid (Kd.C_below HD2.out HV.out)
 have HR25 := Lib.hid (Kd.C_below HR24.out HV.out)
 have HR35 := Lib.hid (Kd.C_below HR34.out HV.out)
 have HR45 := Lib.hid (Kd.C_below HR4.out.2 HV.out)
 clear hr5 hc5 hC5 hb5 hU hP hQ hR hB8 HV HF4 HG4 HD2 HR24 HR34 HB4 HU
 have f0 : w5.cell? ⟨w.heap.size, 0, none⟩ = some (.int .i64 4) := (blk_cell HF5.out 0).trans rfl
 have ga0 : w5.cell? ⟨g2, 0, none⟩ = some (.int .i64 4) := (blk_cell HG5.out 0).trans rfl
 have f1 : w5.cell? ⟨w.heap.size, 1, none⟩ = some (.int .i64 0) := (blk_cell HF5.out 1).trans rfl
 have ga1 : w5.cell? ⟨g2, 1, none⟩ = some (.int .i64 0) := (blk_cell HG5.out 1).trans rfl
 have f2 : w5.cell? ⟨w.heap.size, 2, none⟩ = some (.int .i64 3) := (blk_cell HF5.out 2).trans rfl
 have ga2 : w5.cell? ⟨g2, 2, none⟩ = some (.int .i64 3) := (blk_cell HG5.out 2).trans rfl
 have f3 : w5.cell? ⟨w.heap.size, 3, none⟩ = some (.int .i64 1) := (blk_cell HF5.out 3).trans rfl
 have ga3 : w5.cell? ⟨g2, 3, none⟩ = some (.int .i64 1) := (blk_cell HG5.out 3).trans rfl
 have f4 : w5.cell? ⟨w.heap.size, 4, none⟩ = some (.int .i64 2) := (blk_cell HF5.out 4).trans rfl
 have ga4 : w5.cell? ⟨g2, 4, none⟩ = some (.int .i64 2) := (blk_cell HG5.out 4).trans rfl
 have f5 : w5.cell? ⟨w.heap.size, 5, none⟩ = some (.slice none 0 0) := (blk_cell HF5.out 5).trans rfl
 have ga5 : w5.cell? ⟨g2, 5, none⟩ = some (.slice A2 0 c2) := (blk_cell HG5.out 5).trans rfl
 have f6 : w5.cell? ⟨w.heap.size, 6, none⟩ = some (.slice none 0 0) := (blk_cell HF5.out 6).trans rfl
 have ga6 : w5.cell? ⟨g2, 6, none⟩ = some (.slice A3 0 c3) := (blk_cell HG5.out 6).trans rfl
 have hlen : ((aw25.length : Int) == 25) = true := by kernel_rfl
 have hq : 21 ≤ c1 := by
  have h1 := HC1.out.1
  have h2 : aw25.length = 25 := by kernel_rfl
  omega
 have hsl : (21 ≤ c1) = True := eq_true hq
 have hsi : ((21 : Int) ≤ (c1 : Int)) = True := eq_true (by omega)
 have hsj : (0 ≤ (c1 : Int)) = True := eq_true (by omega)
 clear hq
 have hcv : (convert 22 9 (.slice A1 21 c1)).run Tryd.prog w5 = .ok (.string (strOfNums aw21)) w5 := by
  have h := Kd.C_take HD5.out (m := 21) (by decide)
  exact Kd.C_string Tryd.underlying22 Tryd.underlying5 Tryd.underlying9 h
 have hst : ((strOfNums aw21).toList == [108, 105, 52, 59, 105, 48, 59, 105, 51, 59, 105, 49, 59, 105, 50, 59, 108, 101, 108, 101, 101]) = true := by kernel_rfl
 go_wp2_with fail
 refine (frame_Equal.calls 1 4 0 3 1 2 none 0 [] none 0 [] 4 0 3 1 2 A2 c2 [] A3 c3 [] true w5 (Kd.C_nil _ _) (Nat.le_refl _) (Kd.C_nil _ _) (Nat.le_refl _) HR25.out HR2.out.1 HR35.out HR3.out.1 aw_eq).mono ?_
 rintro e w6 ⟨rfl, hb6⟩
 have HB6 : Hid (Below w.heap.size w w6) := Lib.hid (below_step HB5.out hb6)
 have HR46 := Lib.hid (Kd.C_below HR45.out hb6)
 have HR56 := Lib.hid (Kd.C_below HR5.out.2 hb6)
 have hc4 := HR4.out.1
 have hc5 := HR5.out.1
 clear hb6 HB5 HF5 HG5 HD5 HR25 HR35 HR45 f0 f1 f2 f3 f4 f5 f6 ga0 ga1 ga2 ga3 ga4 ga5 ga6 hlen hsl hsi hsj hcv hst
 have HH4 := Lib.hid hc4
 have HH5 := Lib.hid hc5
 clear hc4 hc5
 go_wp2_with fail
 have hP : ((w6.alloc (Obj.cells #[.string ⟨#[97]⟩] 9)).alloc (Obj.cells #[.int .i64 0, .int .i64 1, .slice none 0 0, .int .i64 2, .int .i64 0, .slice (some ⟨w6.heap.size, 0, none⟩) 1 1] 52)).heap[w6.heap.size]? = some (.cells #[.string ⟨#[97]⟩] 9 (0, 0)) := blk_alloc (heap_alloc_new _ _) _
 have hR : ((w6.alloc (Obj.cells #[.string ⟨#[97]⟩] 9)).alloc (Obj.cells #[.int .i64 0, .int .i64 1, .slice none 0 0, .int .i64 2, .int .i64 0, .slice (some ⟨w6.heap.size, 0, none⟩) 1 1] 52)).heap[w6.heap.size + 1]? = some (.cells #[.int .i64 0, .int .i64 1, .slice none 0 0, .int .i64 2, .int .i64 0, .slice (some ⟨w6.heap.size, 0, none⟩) 1 1] 52 (0, 0)) := by
  have h := heap_alloc_new (w6.alloc (Obj.cells #[.string ⟨#[97]⟩] 9)) (Obj.cells #[.int .i64 0, .int .i64 1, .slice none 0 0, .int .i64 2, .int .i64 0, .slice (some ⟨w6.heap.size, 0, none⟩) 1 1] 52)
  rwa [show (w6.alloc (Obj.cells #[.string ⟨#[97]⟩] 9)).heap.size = w6.heap.size + 1 from by simp] at h
 have hU6 : Below w6.heap.size w6 ((w6.alloc (Obj.cells #[.string ⟨#[97]⟩] 9)).alloc (Obj.cells #[.int .i64 0, .int .i64 1, .slice none 0 0, .int .i64 2, .int .i64 0, .slice (some ⟨w6.heap.size, 0, none⟩) 1 1] 52)) := below_alloc (below_alloc (Below.refl _ _) _) _
 refine (salchowref49_SameEdits.calls 30 A4 c4 [⟨0, 1, []⟩, ⟨2, 0, [⟨#[97]⟩]⟩] (some ⟨w6.heap.size + 1, 0, none⟩) 2 [⟨0, 1, []⟩, ⟨2, 0, [⟨#[97]⟩]⟩] true _ (Kd.C_below HR46.out hU6) HH4.out (C_eds [⟨0, 1, []⟩, ⟨2, 0, [⟨#[97]⟩]⟩] [[.int .i64 0, .int .i64 1, .slice none 0 0], [.int .i64 2, .int .i64 0, .slice (some ⟨w6.heap.size, 0, none⟩) 1 1]] (by decide) rfl hR (fun j h1 h2 => by
  have h3 : j < 2 := h1
  obtain rfl | rfl : j = 0 ∨ j = 1 := by omega
  ·exact k52_mk _ ⟨0, 1, []⟩ (Nat.le_refl _) (Kd.C_nil _ _)
  ·exact k52_mk _ ⟨2, 0, [⟨#[97]⟩]⟩ (Nat.le_refl _) (C_strs [⟨#[97]⟩] (by decide) hP)) (fun j h2 i u hu => by
  have h3 : j < 2 := h2
  obtain rfl | rfl : j = 0 ∨ j = 1 := by omega
  ·match i, hu with
   | 0, hu => exact hu
   | 1, hu => exact hu
   | 2, hu => exact hu
   | n + 3, hu => simp at hu
  ·match i, hu with
   | 0, hu => exact hu
   | 1, hu => exact hu
   | 2, hu => exact hu
   | n + 3, hu => simp at hu)) (Nat.le_refl _) aw_edits).mono ?_
 rintro e w7 ⟨rfl, hb7⟩
 have hU7 := below_step hU6 hb7
 have HB7 : Hid (Below w.heap.size w w7) := Lib.hid (below_step HB6.out hU7)
 have HR57 := Lib.hid (Kd.C_below HR56.out hU7)
 clear hP hR hU6 hU7 hb7 HB6 HR46 HR56
 go_wp2_with fail
 refine (salchowref49_SameLines.calls 30 A5 c5 [⟨#[97]⟩, ⟨#[120]⟩, ⟨#[99]⟩] (some ⟨w7.heap.size, 0, none⟩) 3 [⟨#[97]⟩, ⟨#[120]⟩, ⟨#[99]⟩] true _ (Kd.C_below HR57.out (below_alloc (Below.refl _ _) _)) HH5.out (C_strs [⟨#[97]⟩, ⟨#[120]⟩, ⟨#[99]⟩] (by decide) (heap_alloc_new _ _)) (Nat.le_refl _) aw_lines).mono ?_
 rintro e w8 ⟨rfl, hd8⟩
 have HB8 : Hid (Below w.heap.size w w8) := Lib.hid (below_step (below_alloc HB7.out _) hd8.below)
 clear hd8 HB7 HR57
 have kc := fun (w : World) (C : Array Value) (n c : Nat) => Lib.run_convert_bytes_const (P := Tryd.prog) w 22 5 C n c Tryd.underlying22 Tryd.underlying5
 go_wp2_with fail
 have hS : (w8.alloc (Obj.cells #[.int .u8 49, .int .u8 50, .int .u8 51, .int .u8 52, .int .u8 53, .int .u8 54, .int .u8 55, .int .u8 56, .int .u8 57] 5 (9, 10))).heap[w8.heap.size]? = some (.cells #[.int .u8 49, .int .u8 50, .int .u8 51, .int .u8 52, .int .u8 53, .int .u8 54, .int .u8 55, .int .u8 56, .int .u8 57] 5 (9, 10)) := heap_alloc_new _ _
 refine (frame_Sum.calls (some ⟨w8.heap.size, 0, none⟩) 9 [49, 50, 51, 52, 53, 54, 55, 56, 57] 10673 (w8.alloc (Obj.cells #[.int .u8 49, .int .u8 50, .int .u8 51, .int .u8 52, .int .u8 53, .int .u8 54, .int .u8 55, .int .u8 56, .int .u8 57] 5 (9, 10))) (C_of_cells (by decide) (fun j hj => by
  rw [cell_of_row _ _ _ _ _ _ hS]
  have h9 : j < 9 := hj
  match j, h9 with
  | 0, _ => rfl
  | 1, _ => rfl
  | 2, _ => rfl
  | 3, _ => rfl
  | 4, _ => rfl
  | 5, _ => rfl
  | 6, _ => rfl
  | 7, _ => rfl
  | 8, _ => rfl)) (Nat.le_refl _) aw_sum).mono ?_
 rintro e w9 ⟨rfl, hb9⟩
 have HB9 : Hid (Below w.heap.size w w9) := Lib.hid (below_step (below_alloc HB8.out _) hb9)
 clear hb9 HB8
 go_wp2_with fail
 go_ret
 exact ⟨rfl, HB9.out⟩
end Go.Proofs.YtfpopmojlmpopaaDoor.H

end
