/-
  Part 5 of the proof: words about memory and rows, functions of the program as Lean functions with the contracts that its code comes to just their answers, and plain lemmas; no conditions of its own.
-/
import Derived.Test.YtfpopmojlmpopaaDoorBMk1
import Derived.Test.YtfpopmojlmpopaaDoorBMk2
import Derived.Test.YtfpopmojlmpopaaDoorBMk3
import Derived.Test.YtfpopmojlmpopaaDoorBMk4
section
namespace Go.Proofs.YtfpopmojlmpopaaDoor.L
open Go.RowKit Go.Proofs.YtfpopmojlmpopaaDoorW.PrintWords Go.Proofs.YtfpopmojlmpopaaDoorW.PrintLast Go.Proofs.YtfpopmojlmpopaaDoorW.PrintMore Go.Proofs.YtfpopmojlmpopaaDoor.G Go.Proofs.YtfpopmojlmpopaaDoor.H
set_option linter.unusedVariables false
set_option linter.unusedSimpArgs false
theorem D_len {α : Type} [DecidableEq α] (a b : List α) : D a b ≤ a.length + b.length := by
 have h : Ed a b (a.length + b.length) := by
  have h := Ed.inss b (Ed.dels a (Ed.nil (α := α)))
  simpa using h
 exact D_le h
def dd (a b : List ByteArray) (i k : Nat) : Int := (D (a.drop i) (b.drop k) : Nat)
theorem dd_range (a b : List ByteArray) (i k : Nat) : 0 ≤ dd a b i k ∧ dd a b i k ≤ a.length + b.length := by
 have h := D_len (a.drop i) (b.drop k)
 rw [List.length_drop, List.length_drop] at h
 unfold dd
 omega
theorem dd_end (a b : List ByteArray) (k : Nat) : dd a b a.length k = ((b.length - k : Nat) : Int) := by
 unfold dd
 rw [List.drop_length, D_nil, List.length_drop]
theorem dd_end' (a b : List ByteArray) (i : Nat) : dd a b i b.length = ((a.length - i : Nat) : Int) := by
 unfold dd
 rw [List.drop_length, D_nil', List.length_drop]
theorem dd_eq (a b : List ByteArray) (i k : Nat) (hi : i < a.length) (hk : k < b.length) (h : a[i] = b[k]) : dd a b i k = dd a b (i + 1) (k + 1) := by
 unfold dd
 rw [drop_at a i hi, drop_at b k hk, h, D_eq]
theorem dd_ne (a b : List ByteArray) (i k : Nat) (hi : i < a.length) (hk : k < b.length) (h : ¬ a[i] = b[k]) : dd a b i k = 1 + mn (dd a b (i + 1) k) (dd a b i (k + 1)) := by
 have e : dd a b i k = ((1 + min (D (a.drop (i + 1)) (b.drop k)) (D (a.drop i) (b.drop (k + 1))) : Nat) : Int) := by
  unfold dd
  rw [drop_at a i hi, drop_at b k hk, D_ne h, ← drop_at b k hk, ← drop_at a i hi]
 rw [e]
 unfold dd mn
 split <;> omega
def Fin_ (a b : List ByteArray) (T : List (List Int)) (i : Nat) : Prop := ∀ i', i ≤ i' → i' ≤ a.length → (T.getD i' []).length = b.length + 1 ∧ ∀ k', k' ≤ b.length → (T.getD i' []).getD k' 0 = dd a b i' k'
structure St (a b : List ByteArray) (T : List (List Int)) (i k : Nat) : Prop where
 len : T.length = a.length + 1
 fin : Fin_ a b T (i + 1)
 row : (T.getD i []).length = b.length + 1
 ent : ∀ k', k ≤ k' → k' ≤ b.length → (T.getD i []).getD k' 0 = dd a b i k'
theorem St.put {a b : List ByteArray} {T : List (List Int)} {i k : Nat} (h : St a b T i (k + 1)) (hi : i ≤ a.length) (hk : k ≤ b.length) {v : Int} (hv : v = dd a b i k) : St a b (T.set i ((T.getD i []).set k v)) i k := by
 have hl : i < T.length := by rw [h.len]; omega
 have e : (T.set i ((T.getD i []).set k v)).getD i [] = (T.getD i []).set k v := by
  rw [List.getD_eq_getElem?_getD (l := T.set _ _), List.getElem?_set_self hl]; rfl
 refine ⟨by rw [List.length_set]; exact h.len, fun i' h1 h2 => ?_, by rw [e, List.length_set]; exact h.row, fun k' h1 h2 => ?_⟩
 ·have e2 : (T.set i ((T.getD i []).set k v)).getD i' [] = T.getD i' [] := by
   rw [List.getD_eq_getElem?_getD, List.getElem?_set_ne (by omega), ← List.getD_eq_getElem?_getD]
  rw [e2]
  exact h.fin i' h1 h2
 ·rw [e]
  rcases Nat.eq_or_lt_of_le h1 with h3 | h3
  ·subst h3
   rw [List.getD_eq_getElem?_getD, List.getElem?_set_self (by rw [h.row]; omega), Option.getD_some, hv]
  ·rw [List.getD_eq_getElem?_getD, List.getElem?_set_ne (by omega), ← List.getD_eq_getElem?_getD]
   exact h.ent k' (by omega) h2
theorem St.new {a b : List ByteArray} {T : List (List Int)} {i : Nat} (hlen : T.length = a.length + 1) (hf : Fin_ a b T (i + 1)) (hi : i ≤ a.length) : St a b (T.set i (List.replicate (b.length + 1) 0)) i (b.length + 1) := by
 have hl : i < T.length := by rw [hlen]; omega
 have e : (T.set i (List.replicate (b.length + 1) 0)).getD i [] = List.replicate (b.length + 1) 0 := by
  rw [List.getD_eq_getElem?_getD, List.getElem?_set_self hl]; rfl
 refine ⟨by rw [List.length_set]; exact hlen, fun i' h1 h2 => ?_, by rw [e, List.length_replicate], fun k' h1 h2 => by omega⟩
 have e2 : (T.set i (List.replicate (b.length + 1) 0)).getD i' [] = T.getD i' [] := by
  rw [List.getD_eq_getElem?_getD, List.getElem?_set_ne (by omega), ← List.getD_eq_getElem?_getD]
 rw [e2]
 exact hf i' h1 h2
theorem St.full {a b : List ByteArray} {T : List (List Int)} {i : Nat} (h : St a b T i 0) : T.length = a.length + 1 ∧ Fin_ a b T i :=
 ⟨h.len, fun i' h1 h2 => by
  rcases Nat.eq_or_lt_of_le h1 with h3 | h3
  ·subst h3
   exact ⟨h.row, fun k' hk => h.ent k' (Nat.zero_le _) hk⟩
  ·exact h.fin i' h3 h2⟩
def TAB (a b : List ByteArray) : List (List Int) := (List.range (a.length + 1)).map fun i => (List.range (b.length + 1)).map fun k => dd a b i k
theorem TAB_at (a b : List ByteArray) (i : Nat) (h : i ≤ a.length) : (TAB a b).getD i [] = (List.range (b.length + 1)).map fun k => dd a b i k := by
 unfold TAB
 rw [List.getD_eq_getElem?_getD, List.getElem?_map, List.getElem?_range (by omega)]
 rfl
theorem TAB_at2 (a b : List ByteArray) (i k : Nat) (h : i ≤ a.length) (hk : k ≤ b.length) : ((TAB a b).getD i []).getD k 0 = dd a b i k := by
 rw [TAB_at a b i h, List.getD_eq_getElem?_getD, List.getElem?_map, List.getElem?_range (by omega)]
 rfl
theorem TAB_len (a b : List ByteArray) : (TAB a b).length = a.length + 1 := by rw [TAB, List.length_map, List.length_range]
theorem TAB_of {a b : List ByteArray} {T : List (List Int)} (hl : T.length = a.length + 1) (hf : Fin_ a b T 0) : T = TAB a b := by
 apply List.ext_getElem?
 intro i
 rcases Nat.lt_or_ge i (a.length + 1) with h | h
 ·have h1 : T[i]? = some (T.getD i []) := by rw [List.getD_eq_getElem?_getD, List.getElem?_eq_getElem (by omega)]; rfl
  have h2 : (TAB a b)[i]? = some ((TAB a b).getD i []) := by rw [List.getD_eq_getElem?_getD, List.getElem?_eq_getElem (by rw [TAB_len]; omega)]; rfl
  obtain ⟨h3, h4⟩ := hf i (Nat.zero_le _) (by omega)
  rw [h1, h2, TAB_at a b i (by omega)]
  congr 1
  apply List.ext_getElem?
  intro k
  rcases Nat.lt_or_ge k (b.length + 1) with h5 | h5
  ·have h6 := h4 k (by omega)
   rw [List.getElem?_map, List.getElem?_range h5]
   rw [List.getD_eq_getElem?_getD, List.getElem?_eq_getElem (by omega), Option.getD_some] at h6
   rw [List.getElem?_eq_getElem (by omega), h6]
   rfl
  ·rw [List.getElem?_eq_none (by omega), List.getElem?_eq_none (by rw [List.length_map, List.length_range]; omega)]
 ·rw [List.getElem?_eq_none (by omega), List.getElem?_eq_none (by rw [TAB_len]; omega)]
theorem TAB_shape (a b : List ByteArray) : shapeOk (TAB a b) a.length b.length = true := by
 unfold shapeOk
 rw [Bool.and_eq_true, decide_eq_true_eq, List.all_eq_true]
 refine ⟨TAB_len a b, fun r hr => ?_⟩
 obtain ⟨i, hi, rfl⟩ := List.mem_map.1 hr
 rw [decide_eq_true_eq, List.length_map, List.length_range]
theorem TAB_cmp (a b : List ByteArray) (i k : Nat) (h : i ≤ a.length) (hk : k ≤ b.length) : tabAt (TAB a b) i k = dd a b i k := by
 unfold tabAt
 rw [rd, Int.toNat_natCast]
 exact TAB_at2 a b i k h hk
theorem wp1 (i : Nat) : ((i + 1 : Nat) : Int) - 1 = (i : Int) := by omega
theorem u16w (n : Int) (h0 : 0 ≤ n) (h1 : n ≤ 65535) : IntKind.u16.wrap n = n := by
 simp [IntKind.wrap, IntKind.bits, IntKind.signed]
 omega
section
variable (a b : List ByteArray) (ha : a.length ≤ 4096) (hb : b.length ≤ 4096)
include ha hb
theorem fd_l1 (i : Nat) (hi : i ≤ a.length) (r : List (List Int)) (hnext : ∀ T, T.length = a.length + 1 → Fin_ a b T i → Ev (fun K => frame_distances.l0 K a b T ((i : Int) - 1)) r) :
  ∀ (k : Nat) (T : List (List Int)), k ≤ b.length + 1 → St a b T i k → Ev (fun K => frame_distances.l1 K a b T i ((k : Int) - 1)) r
 | 0, T, hk, hs => by
  have h := hnext T hs.full.1 hs.full.2
  refine Ev.step (fun K => ?_) h
  simp only [frame_distances.l1]
  rw [if_neg (by omega), w64i _ (by omega)]
 | k + 1, T, hk, hs => by
  have ih := fun v (hv : v = dd a b i k) => fd_l1 i hi r hnext k _ (by omega) (hs.put hi (by omega) hv)
  have hr : (rd_L6 T (i : Int)) = T.getD i [] := by rw [rd_L6, Int.toNat_natCast]
  have hd := dd_range a b i k
  have hrow := hs.row
  have hlen := hs.len
  have hw : wrap64 ((k : Int) - 1) = (k : Int) - 1 := w64i _ (by omega)
  rw [wp1]
  by_cases c1 : i = a.length
  ·have e : IntKind.u16.wrap (wrap64 ((b.length : Int) - k)) = dd a b i k := by
    rw [w64i _ (by omega), u16w _ (by omega) (by omega), c1, dd_end]
    omega
   refine Ev.step (fun K => ?_) (ih _ e)
   simp only [frame_distances.l1]
   rw [if_pos (by omega), if_pos (by omega), if_pos (by omega), if_pos (by omega), if_pos (by omega), hr, if_pos (by omega), Int.toNat_natCast, Int.toNat_natCast, hw]
  by_cases c2 : k = b.length
  ·have e : IntKind.u16.wrap (wrap64 ((a.length : Int) - i)) = dd a b i k := by
    rw [w64i _ (by omega), u16w _ (by omega) (by omega), c2, dd_end']
    omega
   refine Ev.step (fun K => ?_) (ih _ e)
   simp only [frame_distances.l1]
   rw [if_pos (by omega), if_neg (by omega), if_pos (by omega), if_pos (by omega), if_pos (by omega), if_pos (by omega), hr, if_pos (by omega), Int.toNat_natCast, Int.toNat_natCast, hw]
  have hia : i < a.length := by omega
  have hkb : k < b.length := by omega
  have hr1 : (rd_L6 T ((i + 1 : Nat) : Int)) = T.getD (i + 1) [] := by rw [rd_L6, Int.toNat_natCast]
  have hf := hs.fin (i + 1) (Nat.le_refl _) hia
  by_cases c3 : a[i] = b[k]
  ·have e : rd (rd_L6 T ((i + 1 : Nat) : Int)) ((k + 1 : Nat) : Int) = dd a b i k := by
    rw [rd, hr1, Int.toNat_natCast, hf.2 (k + 1) (by omega), dd_eq a b i k hia hkb c3]
   refine Ev.step (fun K => ?_) (ih _ e)
   simp only [frame_distances.l1]
   rw [if_pos (by omega), if_neg (by omega), if_neg (by omega), if_pos (by omega), if_pos (by omega), if_pos (by omega), if_pos (by omega), rdOf_nat _ a i hia, rdOf_nat _ b k hkb, if_pos (by rw [c3]), if_pos (by omega), w1 i (by omega), if_pos (by omega), if_pos (by omega), w1 k (by omega), if_pos (by omega), if_pos (by rw [hr1, hf.1]; omega), if_pos (by rw [hr]; omega), hr, Int.toNat_natCast, Int.toNat_natCast, hw]
  ·have e1 : rd (rd_L6 T ((i + 1 : Nat) : Int)) (k : Int) = dd a b (i + 1) k := by rw [rd, hr1, Int.toNat_natCast, hf.2 k (by omega)]
   have e2 : rd (rd_L6 T (i : Int)) ((k + 1 : Nat) : Int) = dd a b i (k + 1) := by rw [rd, hr, Int.toNat_natCast, hs.ent (k + 1) (Nat.le_refl _) (by omega)]
   have e : IntKind.u16.wrap (1 + mn (rd (rd_L6 T ((i + 1 : Nat) : Int)) (k : Int)) (rd (rd_L6 T (i : Int)) ((k + 1 : Nat) : Int))) = dd a b i k := by
    rw [e1, e2, ← dd_ne a b i k hia hkb c3, u16w _ (by omega) (by omega)]
   refine Ev.step (fun K => ?_) (ih _ e)
   simp only [frame_distances.l1]
   rw [if_pos (by omega), if_neg (by omega), if_neg (by omega), if_pos (by omega), if_pos (by omega), if_pos (by omega), if_pos (by omega), rdOf_nat _ a i hia, rdOf_nat _ b k hkb, if_neg (fun h => c3 (list_eq_ba.1 h)), if_pos (by omega), w1 i (by omega), if_pos (by omega), if_pos (by omega), if_pos (by rw [hr1, hf.1]; omega), w1 k (by omega), if_pos (by omega), if_pos (by rw [hr]; omega), if_pos (by rw [hr]; omega), hr, Int.toNat_natCast, Int.toNat_natCast, hw]
theorem fd_l0 : ∀ (i : Nat) (T : List (List Int)), i ≤ a.length + 1 → T.length = a.length + 1 → Fin_ a b T i → Ev (fun K => frame_distances.l0 K a b T ((i : Int) - 1)) (TAB a b)
 | 0, T, hi, hl, hf => by
  rw [← TAB_of hl hf]
  exact Ev.step (fun K => by simp only [frame_distances.l0]; rw [if_neg (by omega)]) (Ev.now T)
 | i + 1, T, hi, hl, hf => by
  have h := fd_l1 a b ha hb i (by omega) (TAB a b) (fun T h1 h2 => fd_l0 i T (by omega) h1 h2) (b.length + 1) _ (Nat.le_refl _) (St.new hl hf (by omega))
  rw [wp1] at h ⊢
  refine Ev.step (fun K => ?_) h
  simp only [frame_distances.l0]
  have e : wrap64 ((b.length : Int) + 1) = ((b.length + 1 : Nat) : Int) := w1 _ (by omega)
  rw [e, if_pos (by omega), if_pos (by omega), if_pos (by omega), if_pos (by omega), if_pos (by omega), Int.toNat_natCast, Int.toNat_natCast]
theorem distances_ev : Ev (fun K => frame_distances.f K a b) (TAB a b) := by
 have h := fd_l0 a b ha hb (a.length + 1) (List.replicate (a.length + 1) []) (Nat.le_refl _) List.length_replicate (fun i' h1 h2 => by omega)
 rw [wp1] at h
 have e : wrap64 ((a.length : Int) + 1) = ((a.length + 1 : Nat) : Int) := w1 _ (by omega)
 refine Ev.congr (fun K => ?_) h
 unfold frame_distances.f
 rw [e, if_pos (by omega), Int.toNat_natCast, if_pos (by omega)]
end
end Go.Proofs.YtfpopmojlmpopaaDoor.L

end
section
namespace Go.Proofs.YtfpopmojlmpopaaDoor.G
open Go.RowKit Go.Proofs.YtfpopmojlmpopaaDoorW.PrintWords Go.Proofs.YtfpopmojlmpopaaDoorW.PrintLast Go.Proofs.YtfpopmojlmpopaaDoorW.PrintMore
attribute [local go_sem] max2_int min2_int max_two min_two max_three min_three max_four min_four
set_option linter.unusedVariables false
set_option linter.unusedSimpArgs false
def salchowref49_Cost.l0 : Nat → List (S52) → Int → Int → Option (Int)
 | 0, _, _, _ => none
 | k + 1, x0, x3, x4 => if x4 < (x0.length : Int) then (if 0 ≤ x4 then (salchowref49_Cost.l0 k x0 (wrap64 (x3 + (wrap64 (((rd_T52 x0 x4).f1) + (((rd_T52 x0 x4).f2).length : Int))))) (wrap64 (x4 + 1))) else (none)) else (some x3)
def salchowref49_Cost.f (k : Nat) (l0 : List (S52)) : Option (Int) := salchowref49_Cost.l0 k l0 0 0
set_option maxHeartbeats 8000000 in
set_option maxRecDepth 100000 in
theorem salchowref49_Cost.calls (k : Nat) (A0 : Option Addr) (c0 : Nat) (l0 : List (S52)) (r : Int) (w : World) (hr0 : Kd.C k52 w A0 l0.length l0) (hc0 : l0.length ≤ c0) (h : salchowref49_Cost.f k l0 = some r) :
  Calls Tryd.prog 24 #[.slice A0 l0.length c0] w fun e w' => e = .returned (.int .i64 r) ∧ Drawn0 w w' := by
 have HR0 := Aside0.mk hr0
 have HC0 := Aside0.mk hc0
 clear hr0 hc0
 have H : (salchowref49_Cost.l0 k l0 0 0) = some r := h
 clear h
 have H' := Aside0.mk H
 clear H
 go_enter Tryd.func24, Tryd.ntmps24
 go_wp2
 repeat (go_quiet (fail); try go_wp2)
 go_loopg [3, 4] k (fun kq v3 v4 w' => ∃ (x3_1 : Int) (x4_1 : Int), v3 = .int .i64 x3_1 ∧ v4 = .int .i64 x4_1 ∧ Aside0 (salchowref49_Cost.l0 kq l0 x3_1 x4_1 = some r) ∧ Aside0 (kq ≤ k) ∧ Drawn0 w w')
 case atStart => exact ⟨(0), (0), (by first | rfl | (simp; done) | (simp [*]; done)), (by first | rfl | (simp; done) | (simp [*]; done)), H', ⟨Nat.le_refl _⟩, by repeat (first | exact Drawn0.refl _ | apply Drawn0.step)⟩
 case round =>
  clear H'
  obtain ⟨x3_1, x4_1, rfl, rfl, HA, HK1, ⟨m1, rfl⟩⟩ := hrel
  cases gk with
  | zero => exact absurd HA.out (by simp [salchowref49_Cost.l0])
  | succ k1 =>
   have H := HA.out
   clear HA
   simp only [salchowref49_Cost.l0] at H
   by_cases c2 : x4_1 < (l0.length : Int)
   ·rw [if_pos c2] at H
    have c2b0 : decide (x4_1 < (l0.length : Int)) = true := decide_eq_true c2
    clear c2
    by_cases c3 : 0 ≤ x4_1
    ·rw [if_pos c3] at H
     have c3b0 : decide (0 ≤ x4_1) = true := decide_eq_true c3
     clear c3
     have H' := Aside0.mk H
     clear H
     have p246 : 0 ≤ (x4_1 : Int) := of_decide_eq_true (by first | (with_reducible assumption) | assumption)
     have q246 : x4_1 < (l0.length : Int) := of_decide_eq_true (by first | (with_reducible assumption) | assumption)
     obtain ⟨ad246, A246_2, c246_2, e246, hx246_0, hx246_1, hx246_2, hl246_2, hi246_2⟩ := at_T52 HR0.out x4_1 p246 q246
     cases e246
     have HR246_2 := Aside0.mk hi246_2
     have HC246_2 := Aside0.mk hl246_2
     clear hi246_2 hl246_2
     replace p246 := eq_true p246
     replace q246 := eq_true q246
     have p247 : 0 ≤ (x4_1 : Int) := of_decide_eq_true (by first | (with_reducible assumption) | assumption)
     have q247 : x4_1 < (l0.length : Int) := of_decide_eq_true (by first | (with_reducible assumption) | assumption)
     obtain ⟨ad247, A247_2, c247_2, e247, hx247_0, hx247_1, hx247_2, hl247_2, hi247_2⟩ := at_T52 HR0.out x4_1 p247 q247
     obtain rfl : ad246 = ad247 := (by injection e247)
     have HR247_2 := Aside0.mk hi247_2
     have HC247_2 := Aside0.mk hl247_2
     clear hi247_2 hl247_2
     replace p247 := eq_true p247
     replace q247 := eq_true q247
     have ea_ := Option.some.inj (hx246_2.symm.trans hx247_2)
     injection ea_ with ea_ en_ ec_
     subst ea_
     subst ec_
     clear en_
     go_wp2
     repeat (go_quiet (fail); try go_wp2)
     go_roundg k1
     case measure => have := HK1.out; omega
     case rel => exact ⟨(wrap64 (x3_1 + (wrap64 (((rd_T52 l0 x4_1).f1) + (((rd_T52 l0 x4_1).f2).length : Int))))), (wrap64 (x4_1 + 1)), (by first | rfl | (simp; done) | (simp [*]; done)), (by first | rfl | (simp; done) | (simp [*]; done)), H', ⟨by have := HK1.out; omega⟩, by repeat (first | exact Drawn0.refl _ | apply Drawn0.step)⟩
    ·rw [if_neg c3] at H
     exact absurd H (by simp)
   ·rw [if_neg c2] at H
    have c2b0 : decide (x4_1 < (l0.length : Int)) = false := decide_eq_false c2
    clear c2
    obtain rfl := Option.some.inj H
    go_wp2
    repeat (go_quiet (fail); try go_wp2)
    go_ret
    exact ⟨by first | rfl | (simp; done) | (simp [*]; done), by repeat (first | exact Drawn0.refl _ | apply Drawn0.step)⟩
end Go.Proofs.YtfpopmojlmpopaaDoor.G

end
section
namespace Go.Proofs.YtfpopmojlmpopaaDoor.L
open Go.RowKit Go.Proofs.YtfpopmojlmpopaaDoorW.PrintWords Go.Proofs.YtfpopmojlmpopaaDoorW.PrintLast Go.Proofs.YtfpopmojlmpopaaDoorW.PrintMore Go.Proofs.YtfpopmojlmpopaaDoor.G Go.Proofs.YtfpopmojlmpopaaDoor.H
set_option linter.unusedVariables false
set_option linter.unusedSimpArgs false
def dgo (a b : List ByteArray) : Nat → List S52 → Bool → Nat → Nat → List S52
 | 0, out, _, _, _ => out
 | m + 1, out, gap, i, k =>
  if i < a.length ∨ k < b.length then
   if i < a.length ∧ k < b.length ∧ rdOf ByteArray.empty a i = rdOf ByteArray.empty b k then dgo a b m out false (i + 1) (k + 1)
   else if i < a.length ∧ (k = b.length ∨ dd a b (i + 1) k ≤ dd a b i (k + 1)) then dgo a b m (stepDel (gapE out gap i)) true (i + 1) k
   else dgo a b m (stepAdd (gapE out gap i) (rdOf ByteArray.empty b k)) true i (k + 1)
  else out
theorem rd_last (l : List S52) (e : S52) : lastE (l ++ [e]) = e := by
 unfold lastE
 rw [List.length_append, List.length_singleton, wp1, rdT_nat _ _ (by simp)]
 simp
theorem stepDel_last (l : List S52) (e : S52) : stepDel (l ++ [e]) = l ++ [⟨e.f0, wrap64 (e.f1 + 1), e.f2⟩] := by
 have h : rd_T52 (l ++ [e]) ((((l ++ [e]).length : Nat) : Int) - 1) = e := rd_last l e
 unfold stepDel bumpE
 rw [h, rd_last, List.length_append, List.length_singleton, Nat.add_sub_cancel, List.set_append_right _ _ (Nat.le_refl _), Nat.sub_self]
 rfl
theorem stepAdd_last (l : List S52) (e : S52) (s : ByteArray) : stepAdd (l ++ [e]) s = l ++ [⟨e.f0, e.f1, e.f2 ++ [s]⟩] := by
 have h : rd_T52 (l ++ [e]) ((((l ++ [e]).length : Nat) : Int) - 1) = e := rd_last l e
 unfold stepAdd addE
 rw [h, rd_last, List.length_append, List.length_singleton, Nat.add_sub_cancel, List.set_append_right _ _ (Nat.le_refl _), Nat.sub_self]
 rfl
theorem gap_form (out : List S52) (gap : Bool) (i : Nat) (h : gap = true → out ≠ []) : ∃ l e, gapE out gap i = l ++ [e] ∧ ((gap = true ∧ out = l ++ [e]) ∨ (gap = false ∧ out = l ∧ e = ⟨(i : Int), 0, []⟩)) := by
 cases gap with
 | false => exact ⟨out, ⟨(i : Int), 0, []⟩, rfl, .inr ⟨rfl, rfl, rfl⟩⟩
 | true =>
  have hne := h rfl
  exact ⟨out.dropLast, out.getLast hne, (List.dropLast_concat_getLast hne).symm, .inl ⟨rfl, (List.dropLast_concat_getLast hne).symm⟩⟩
theorem dfl_ev (a b : List ByteArray) (ha : a.length ≤ 4096) (hb : b.length ≤ 4096) : ∀ (m : Nat) (out : List S52) (gap : Bool) (i k : Nat), (a.length - i) + (b.length - k) ≤ m → i ≤ a.length → k ≤ b.length →
  (gap = true → out ≠ []) → out.length ≤ i + k → (∀ e ∈ out, e.f2.length ≤ k) → Ev (fun f => dfl (TAB a b) a b f out gap i k) (dgo a b m out gap i k)
 | m, out, gap, i, k, hm, hi, hk, h1, h2, h3 => by
  by_cases c0 : i < a.length ∨ k < b.length
  ·obtain ⟨m, rfl⟩ : ∃ q, m = q + 1 := ⟨m - 1, by omega⟩
   rw [dgo, if_pos c0]
   by_cases c1 : i < a.length ∧ k < b.length ∧ rdOf ByteArray.empty a i = rdOf ByteArray.empty b k
   ·rw [if_pos c1]
    exact Ev.step (fun f => by rw [dfl, if_pos c0, if_pos c1]) (dfl_ev a b ha hb m out false (i + 1) (k + 1) (by omega) (by omega) (by omega) (fun h => by cases h) (by omega) (fun e he => Nat.le_trans (h3 e he) (by omega)))
   ·rw [if_neg c1]
    obtain ⟨l, e, hg, hcase⟩ := gap_form out gap i h1
    have hlen : l.length ≤ i + k ∧ e.f2.length ≤ k ∧ ∀ x ∈ l, x.f2.length ≤ k := by
     rcases hcase with ⟨_, rfl⟩ | ⟨_, rfl, rfl⟩
     ·rw [List.length_append] at h2
      exact ⟨by omega, h3 e (by simp), fun x hx => h3 x (by simp [hx])⟩
     ·exact ⟨h2, by simp, h3⟩
    have hgl : (gapE out gap i).length ≤ i + k + 1 := by rw [hg, List.length_append, List.length_singleton]; omega
    have guard : 0 < (gapE out gap i).length ∧ out.length < 1000000000000 ∧ (lastE (gapE out gap i)).f2.length < 8796093022208 := by
     rw [hg, rd_last]
     exact ⟨by simp, by omega, by omega⟩
    have step : ∀ f, dfl (TAB a b) a b (f + 1) out gap i k = if i < a.length ∧ (k = b.length ∨ tabAt (TAB a b) (i + 1) k ≤ tabAt (TAB a b) i (k + 1)) then dfl (TAB a b) a b f (stepDel (gapE out gap i)) true (i + 1) k else dfl (TAB a b) a b f (stepAdd (gapE out gap i) (rdOf ByteArray.empty b k)) true i (k + 1) := fun f => by
     rw [dfl, if_pos c0, if_neg c1, if_pos guard]
    have hcmp : (i < a.length ∧ (k = b.length ∨ tabAt (TAB a b) (i + 1) k ≤ tabAt (TAB a b) i (k + 1))) ↔ (i < a.length ∧ (k = b.length ∨ dd a b (i + 1) k ≤ dd a b i (k + 1))) := by
     refine and_congr_right fun hia => ?_
     by_cases hkb : k = b.length
     ·simp [hkb]
     ·rw [TAB_cmp a b (i + 1) k (by omega) (by omega), TAB_cmp a b i (k + 1) (by omega) (by omega)]
    have hsz : ∀ e' : S52, (l ++ [e'] : List S52) ≠ [] := fun e' => by simp
    by_cases c2 : i < a.length ∧ (k = b.length ∨ dd a b (i + 1) k ≤ dd a b i (k + 1))
    ·rw [if_pos c2]
     refine Ev.step (fun f => by rw [step f, if_pos (hcmp.2 c2)]) (dfl_ev a b ha hb m _ true (i + 1) k (by omega) (by omega) (by omega) ?_ ?_ ?_)
     ·intro _
      rw [hg, stepDel_last]
      simp
     ·rw [hg, stepDel_last, List.length_append, List.length_singleton]
      omega
     ·rw [hg, stepDel_last]
      intro x hx
      rcases List.mem_append.1 hx with hx | hx
      ·exact hlen.2.2 x hx
      ·rw [List.mem_singleton.1 hx]
       exact hlen.2.1
    ·rw [if_neg c2]
     have hkb : k < b.length := by
      rcases Nat.lt_or_ge k b.length with h | h
      ·exact h
      ·exact absurd ⟨by omega, .inl (by omega)⟩ c2
     refine Ev.step (fun f => by rw [step f, if_neg (fun h => c2 (hcmp.1 h))]) (dfl_ev a b ha hb m _ true i (k + 1) (by omega) (by omega) (by omega) ?_ ?_ ?_)
     ·intro _
      rw [hg, stepAdd_last]
      simp
     ·rw [hg, stepAdd_last, List.length_append, List.length_singleton]
      omega
     ·rw [hg, stepAdd_last]
      intro x hx
      rcases List.mem_append.1 hx with hx | hx
      ·exact Nat.le_trans (hlen.2.2 x hx) (by omega)
      ·rw [List.mem_singleton.1 hx]
       show (e.f2 ++ [_]).length ≤ k + 1
       rw [List.length_append, List.length_singleton]
       have := hlen.2.1
       omega
  ·have e : dgo a b m out gap i k = out := by
    cases m with
    | zero => rfl
    | succ m => rw [dgo, if_neg c0]
   rw [e]
   exact Ev.step (fun f => by rw [dfl, if_neg c0]) (Ev.now out)
 termination_by m => m
def diffL (a b : List ByteArray) : List S52 := dgo a b (a.length + b.length) [] false 0 0
def diffF (a b : List ByteArray) : List S52 × Int := if lineE a = 0 then if lineE b = 0 then (diffL a b, 0) else ([], 1) else ([], 1)
theorem diff_ev (a b : List ByteArray) : Ev (fun k => frame_Diff.f k a b) (diffF a b) := by
 unfold frame_Diff.f diffF
 refine Ev.bind (lineError_ev a) ?_
 by_cases h1 : lineE a = 0
 ·rw [if_pos h1]
  refine Ev.congr (fun k => if_pos h1) (Ev.bind (lineError_ev b) ?_)
  by_cases h2 : lineE b = 0
  ·rw [if_pos h2]
   have ha := lineE_len h1
   have hb := lineE_len h2
   refine Ev.congr (fun k => if_pos h2) (Ev.bind (distances_ev a b ha hb) (Ev.congr (fun k => if_pos (TAB_shape a b)) (Ev.bind (dfl_ev a b ha hb (a.length + b.length) [] false 0 0 (by omega) (by omega) (by omega) (fun h => by cases h) (by simp) (fun e he => by cases he)) (Ev.now _))))
  ·rw [if_neg h2]
   exact Ev.congr (fun k => if_neg h2) (Ev.now _)
 ·rw [if_neg h1]
  exact Ev.congr (fun k => if_neg h1) (Ev.now _)
end Go.Proofs.YtfpopmojlmpopaaDoor.L

end
section
namespace Go.Proofs.YtfpopmojlmpopaaDoor.L
open Go.RowKit Go.Proofs.YtfpopmojlmpopaaDoorW.PrintWords Go.Proofs.YtfpopmojlmpopaaDoorW.PrintLast Go.Proofs.YtfpopmojlmpopaaDoorW.PrintMore Go.Proofs.YtfpopmojlmpopaaDoor.G Go.Proofs.YtfpopmojlmpopaaDoor.H
set_option linter.unusedVariables false
set_option linter.unusedSimpArgs false
def costL : List S52 → Int
 | [] => 0
 | x :: r => x.f1 + (x.f2.length : Int) + costL r
theorem costL_snoc : ∀ (l : List S52) (e : S52), costL (l ++ [e]) = costL l + (e.f1 + (e.f2.length : Int))
 | [], e => by simp [costL]
 | x :: l, e => by
  rw [List.cons_append, costL, costL, costL_snoc l e]
  omega
theorem lineE_iff (l : List ByteArray) : lineE l = 0 ↔ l.length ≤ 4096 ∧ ∀ s ∈ l, long s = false ∧ badC s = false := by
 unfold lineE lineT
 by_cases h1 : (l.length : Int) > 4096
 ·rw [if_pos h1]
  exact ⟨(fun h => by cases h), fun h => by omega⟩
 ·rw [if_neg h1]
  by_cases h2 : l.any long = true
  ·rw [if_pos h2]
   refine ⟨(fun h => by cases h), fun h => ?_⟩
   obtain ⟨s, hs, hl⟩ := List.any_eq_true.1 h2
   rw [(h.2 s hs).1] at hl
   cases hl
  ·rw [if_neg h2]
   by_cases h3 : l.any badC = true
   ·rw [if_pos h3]
    refine ⟨(fun h => by cases h), fun h => ?_⟩
    obtain ⟨s, hs, hl⟩ := List.any_eq_true.1 h3
    rw [(h.2 s hs).2] at hl
    cases hl
   ·rw [if_neg h3]
    refine ⟨fun _ => ⟨by omega, fun s hs => ⟨?_, ?_⟩⟩, fun _ => rfl⟩
    ·cases hq : long s with
     | false => rfl
     | true => exact absurd (List.any_eq_true.2 ⟨s, hs, hq⟩) h2
    ·cases hq : badC s with
     | false => rfl
     | true => exact absurd (List.any_eq_true.2 ⟨s, hs, hq⟩) h3
def appTo (a : List ByteArray) : List ByteArray → Nat → List S52 → Nat → List ByteArray
 | out, at_, [], i => out ++ upto a at_ i
 | out, at_, x :: r, i => appTo a (out ++ upto a at_ x.f0.toNat ++ x.f2) (x.f0 + x.f1).toNat r i
theorem appTo_end (a : List ByteArray) : ∀ (es : List S52) (out : List ByteArray) (at_ : Nat), appTo a out at_ es a.length = appFrom a out at_ es
 | [], out, at_ => by rw [appTo, appFrom, upto, List.take_length]
 | x :: r, out, at_ => by rw [appTo, appFrom, appTo_end a r]
theorem appTo_snoc (a : List ByteArray) : ∀ (l : List S52) (e : S52) (out : List ByteArray) (at_ i : Nat), appTo a out at_ (l ++ [e]) i = appTo a out at_ l e.f0.toNat ++ e.f2 ++ upto a (e.f0 + e.f1).toNat i
 | [], e, out, at_, i => by rw [List.nil_append, appTo, appTo, appTo]
 | x :: r, e, out, at_, i => by rw [List.cons_append, appTo, appTo, appTo_snoc a r]
theorem upto_self (a : List ByteArray) (i : Nat) : upto a i i = [] := by
 unfold upto
 rw [List.drop_eq_nil_iff, List.length_take]
 omega
theorem upto_step (a : List ByteArray) (n i : Nat) (hn : n ≤ i) (hi : i < a.length) : upto a n (i + 1) = upto a n i ++ [a[i]] := by
 unfold upto
 rw [List.take_succ_eq_append_getElem hi, List.drop_append_of_le_length (by rw [List.length_take]; omega)]
theorem appTo_step (a : List ByteArray) (i : Nat) (hi : i < a.length) : ∀ (es : List S52) (out : List ByteArray) (at_ : Nat), at_ ≤ i → (∀ e ∈ es, e.f0 + e.f1 ≤ (i : Int)) → appTo a out at_ es (i + 1) = appTo a out at_ es i ++ [a[i]]
 | [], out, at_, h, _ => by rw [appTo, appTo, upto_step a at_ i h hi, List.append_assoc]
 | x :: r, out, at_, h, he => by
  rw [appTo, appTo]
  exact appTo_step a i hi r _ _ (by have := he x (by simp); omega) (fun e h => he e (List.mem_cons_of_mem _ h))
def lastOf (p : Option S52) : List S52 → Option S52
 | [] => p
 | x :: r => lastOf (some x) r
theorem lastOf_mem : ∀ (l : List S52) (p : Option S52) (e : S52), lastOf p l = some e → p = some e ∨ e ∈ l
 | [], _, _, h => .inl h
 | x :: r, p, e, h => by
  rcases lastOf_mem r (some x) e h with h | h
  ·exact .inr (by rw [Option.some.inj h]; simp)
  ·exact .inr (List.mem_cons_of_mem _ h)
theorem posFrom_snoc : ∀ (l : List S52) (p : Option S52) (e : S52), posFrom p (l ++ [e]) = (posFrom p l && (okE e && nextOk (lastOf p l) e))
 | [], p, e => by simp [posFrom, lastOf]
 | x :: r, p, e => by rw [List.cons_append, posFrom, posFrom, posFrom_snoc r, lastOf]; simp only [Bool.and_assoc]
theorem nextOk_f0 (p : Option S52) (x y : S52) (h : x.f0 = y.f0) : nextOk p x = nextOk p y := by
 unfold nextOk
 rw [h]
structure Inv (a b : List ByteArray) (out : List S52) (gap : Bool) (i k : Nat) : Prop where
 made : appTo a [] 0 out i = b.take k
 pos : posFrom none out = true
 fit : ∀ e ∈ out, e.f0 + e.f1 ≤ (i : Int)
 few : ∀ e ∈ out, e.f2.length ≤ k
 len : out.length ≤ i + k
 opn : gap = true → ∃ l e, out = l ++ [e] ∧ e.f0 + e.f1 = (i : Int)
 cls : gap = false → ∀ e, lastOf none out = some e → e.f0 + e.f1 < (i : Int)
 cost : costL out + dd a b i k = dd a b 0 0
theorem Inv.start (a b : List ByteArray) : Inv a b [] false 0 0 := by
 refine ⟨?_, rfl, (fun e he => by cases he), (fun e he => by cases he), by simp, (fun h => by cases h), (fun _ e he => by cases he), by simp [costL]⟩
 rw [appTo, upto_self]
 rfl
theorem Inv.gap {a b : List ByteArray} {out : List S52} {gap : Bool} {i k : Nat} (h : Inv a b out gap i k) (ha : i ≤ 4096) :
  ∃ l e, gapE out gap i = l ++ [e] ∧ e.f0 + e.f1 = (i : Int) ∧ 0 ≤ e.f0 ∧ 0 ≤ e.f1 ∧ lineE e.f2 = 0 ∧ e.f2.length ≤ k ∧ posFrom none l = true ∧ nextOk (lastOf none l) e = true ∧ (∀ x ∈ l, x.f0 + x.f1 ≤ (i : Int)) ∧ (∀ x ∈ l, x.f2.length ≤ k) ∧
   l.length ≤ i + k ∧ appTo a [] 0 l e.f0.toNat ++ e.f2 = b.take k ∧ costL l + (e.f1 + (e.f2.length : Int)) + dd a b i k = dd a b 0 0 := by
 cases gap with
 | true =>
  obtain ⟨l, e, rfl, he⟩ := h.opn rfl
  have hp := h.pos
  rw [posFrom_snoc, Bool.and_eq_true, Bool.and_eq_true] at hp
  have hg := okE_good hp.2.1
  have hm := h.made
  rw [appTo_snoc, he, Int.toNat_natCast, upto_self, List.append_nil] at hm
  have hc := h.cost
  rw [costL_snoc] at hc
  have ho := hp.2.1
  simp only [okE, Bool.and_eq_true, beq_iff_eq] at ho
  have hl := h.len
  rw [List.length_append] at hl
  exact ⟨l, e, rfl, he, hg.a0, hg.d0, ho.2, h.few e (by simp), hp.1, hp.2.2, fun x hx => h.fit x (by simp [hx]), fun x hx => h.few x (by simp [hx]), by omega, hm, by omega⟩
 | false =>
  refine ⟨out, ⟨(i : Int), 0, []⟩, rfl, by simp, by simp, by simp, rfl, by simp, h.pos, ?_, h.fit, h.few, h.len, ?_, ?_⟩
  ·cases hl : lastOf none out with
   | none => rfl
   | some p =>
    have h1 := h.cls rfl p hl
    have h2 : p ∈ out := by
     rcases lastOf_mem out none p hl with h | h
     ·cases h
     ·exact h
    have h3 := posFrom_good h.pos p h2
    have h4 := h3.d0
    have h5 := h3.d1
    have h6 := h3.a0
    unfold nextOk
    simp only
    rw [w64i _ (by omega), decide_eq_false (by omega)]
    rfl
  ·show appTo a [] 0 out ((i : Int)).toNat ++ [] = _
   rw [List.append_nil, Int.toNat_natCast, h.made]
  ·have := h.cost
   simp only [List.length_nil]
   omega
theorem okE_of {x : S52} (h0 : 0 ≤ x.f0) (h1 : 0 ≤ x.f1) (h2 : x.f1 ≤ 4096) (h3 : x.f1 ≠ 0 ∨ x.f2.length ≠ 0) (h4 : lineE x.f2 = 0) : okE x = true := by
 simp only [okE, Bool.and_eq_true, decide_eq_true_eq, beq_iff_eq, Bool.not_eq_true', Bool.and_eq_false_iff, beq_eq_false_iff_ne]
 exact ⟨⟨⟨⟨h0, h1⟩, h2⟩, h3⟩, h4⟩
theorem Inv.del {a b : List ByteArray} {out : List S52} {gap : Bool} {i k : Nat} (h : Inv a b out gap i k) (ha : a.length ≤ 4096) (hi : i < a.length) (hd : dd a b i k = 1 + dd a b (i + 1) k) : Inv a b (stepDel (gapE out gap i)) true (i + 1) k := by
 obtain ⟨l, e, hg, he, e0, e1, e2, e3, p1, p2, p3, p4, p5, hm, hc⟩ := h.gap (by omega)
 have ew : wrap64 (e.f1 + 1) = e.f1 + 1 := w64i _ (by omega)
 rw [hg, stepDel_last, ew]
 refine ⟨?_, ?_, ?_, ?_, ?_, fun _ => ⟨l, _, rfl, ?_⟩, (fun h => by cases h), ?_⟩
 ·rw [appTo_snoc]
  show appTo a [] 0 l e.f0.toNat ++ e.f2 ++ upto a (e.f0 + (e.f1 + 1)).toNat (i + 1) = _
  rw [show e.f0 + (e.f1 + 1) = ((i + 1 : Nat) : Int) from by omega, Int.toNat_natCast, upto_self, List.append_nil, hm]
 ·rw [posFrom_snoc, p1, okE_of (x := ⟨e.f0, e.f1 + 1, e.f2⟩) e0 (by show 0 ≤ e.f1 + 1; omega) (by show e.f1 + 1 ≤ 4096; omega) (.inl (by show e.f1 + 1 ≠ 0; omega)) e2, nextOk_f0 _ ⟨e.f0, e.f1 + 1, e.f2⟩ e rfl, p2]
  rfl
 ·intro x hx
  rcases List.mem_append.1 hx with hx | hx
  ·have := p3 x hx
   omega
  ·rw [List.mem_singleton.1 hx]
   show e.f0 + (e.f1 + 1) ≤ _
   omega
 ·intro x hx
  rcases List.mem_append.1 hx with hx | hx
  ·exact p4 x hx
  ·rw [List.mem_singleton.1 hx]
   exact e3
 ·rw [List.length_append, List.length_singleton]
  omega
 ·show e.f0 + (e.f1 + 1) = _
  omega
 ·rw [costL_snoc]
  show costL l + (e.f1 + 1 + (e.f2.length : Int)) + _ = _
  omega
theorem Inv.add {a b : List ByteArray} {out : List S52} {gap : Bool} {i k : Nat} (h : Inv a b out gap i k) (ha : a.length ≤ 4096) (hb : lineE b = 0) (hi : i ≤ a.length) (hk : k < b.length) (hd : dd a b i k = 1 + dd a b i (k + 1)) : Inv a b (stepAdd (gapE out gap i) (rdOf ByteArray.empty b k)) true i (k + 1) := by
 obtain ⟨l, e, hg, he, e0, e1, e2, e3, p1, p2, p3, p4, p5, hm, hc⟩ := h.gap (by omega)
 rw [hg, stepAdd_last, rdOf_nat _ b k hk]
 have hlen : (e.f2 ++ [b[k]]).length = e.f2.length + 1 := by rw [List.length_append, List.length_singleton]
 have hbl := lineE_len hb
 have hle : lineE (e.f2 ++ [b[k]]) = 0 := by
  rw [lineE_iff] at e2 hb ⊢
  refine ⟨by omega, fun s hs => ?_⟩
  rcases List.mem_append.1 hs with hs | hs
  ·exact e2.2 s hs
  ·rw [List.mem_singleton.1 hs]
   exact hb.2 _ (List.getElem_mem _)
 refine ⟨?_, ?_, ?_, ?_, ?_, fun _ => ⟨l, _, rfl, he⟩, (fun h => by cases h), ?_⟩
 ·rw [appTo_snoc]
  show appTo a [] 0 l e.f0.toNat ++ (e.f2 ++ [b[k]]) ++ upto a (e.f0 + e.f1).toNat i = _
  rw [he, Int.toNat_natCast, upto_self, List.append_nil, ← List.append_assoc, hm, List.take_succ_eq_append_getElem hk]
 ·rw [posFrom_snoc, p1, okE_of (x := ⟨e.f0, e.f1, e.f2 ++ [b[k]]⟩) e0 e1 (by show e.f1 ≤ 4096; omega) (.inr (by show (e.f2 ++ [b[k]]).length ≠ 0; omega)) hle, nextOk_f0 _ ⟨e.f0, e.f1, e.f2 ++ [b[k]]⟩ e rfl, p2]
  rfl
 ·intro x hx
  rcases List.mem_append.1 hx with hx | hx
  ·exact p3 x hx
  ·rw [List.mem_singleton.1 hx]
   show e.f0 + e.f1 ≤ _
   omega
 ·intro x hx
  rcases List.mem_append.1 hx with hx | hx
  ·have := p4 x hx
   omega
  ·rw [List.mem_singleton.1 hx]
   show (e.f2 ++ [b[k]]).length ≤ k + 1
   omega
 ·rw [List.length_append, List.length_singleton]
  omega
 ·rw [costL_snoc]
  show costL l + (e.f1 + ((e.f2 ++ [b[k]]).length : Int)) + _ = _
  rw [hlen]
  omega
theorem Inv.keep {a b : List ByteArray} {out : List S52} {gap : Bool} {i k : Nat} (h : Inv a b out gap i k) (hi : i < a.length) (hk : k < b.length) (he : a[i] = b[k]) : Inv a b out false (i + 1) (k + 1) := by
 refine ⟨?_, h.pos, fun e hx => by have := h.fit e hx; omega, fun e hx => by have := h.few e hx; omega, by have := h.len; omega, (fun h => by cases h), fun _ e hx => ?_, ?_⟩
 ·rw [appTo_step a i hi out [] 0 (Nat.zero_le _) h.fit, h.made, List.take_succ_eq_append_getElem hk, he]
 ·have h2 : e ∈ out := by
   rcases lastOf_mem out none e hx with h | h
   ·cases h
   ·exact h
  have := h.fit e h2
  omega
 ·rw [← dd_eq a b i k hi hk he]
  exact h.cost
theorem dgo_inv (a b : List ByteArray) (ha : lineE a = 0) (hb : lineE b = 0) : ∀ (m : Nat) (out : List S52) (gap : Bool) (i k : Nat), (a.length - i) + (b.length - k) ≤ m → i ≤ a.length → k ≤ b.length → Inv a b out gap i k →
  ∃ g, Inv a b (dgo a b m out gap i k) g a.length b.length
 | 0, out, gap, i, k, hm, hi, hk, h => by
  obtain rfl : i = a.length := by omega
  obtain rfl : k = b.length := by omega
  exact ⟨gap, h⟩
 | m + 1, out, gap, i, k, hm, hi, hk, h => by
  have hal := lineE_len ha
  rw [dgo]
  by_cases c0 : i < a.length ∨ k < b.length
  ·rw [if_pos c0]
   by_cases c1 : i < a.length ∧ k < b.length ∧ rdOf ByteArray.empty a i = rdOf ByteArray.empty b k
   ·rw [if_pos c1]
    obtain ⟨c2, c3, c4⟩ := c1
    rw [rdOf_nat _ a i c2, rdOf_nat _ b k c3] at c4
    exact dgo_inv a b ha hb m out false (i + 1) (k + 1) (by omega) (by omega) (by omega) (h.keep c2 c3 c4)
   ·rw [if_neg c1]
    by_cases c2 : i < a.length ∧ (k = b.length ∨ dd a b (i + 1) k ≤ dd a b i (k + 1))
    ·rw [if_pos c2]
     have hd : dd a b i k = 1 + dd a b (i + 1) k := by
      obtain ⟨c3, c4⟩ := c2
      by_cases c5 : k = b.length
      ·rw [c5, dd_end', dd_end']
       omega
      ·have c6 : k < b.length := by omega
       have hne : ¬ a[i] = b[k] := fun he => c1 ⟨c3, c6, by rw [rdOf_nat _ a i c3, rdOf_nat _ b k c6, he]⟩
       have h4 : dd a b (i + 1) k ≤ dd a b i (k + 1) := c4.resolve_left c5
       rw [dd_ne a b i k c3 c6 hne]
       unfold mn
       rw [if_neg (by omega)]
     exact dgo_inv a b ha hb m _ true (i + 1) k (by omega) (by omega) hk (h.del hal c2.1 hd)
    ·rw [if_neg c2]
     have hkb : k < b.length := by
      rcases Nat.lt_or_ge k b.length with h | h
      ·exact h
      ·exact absurd ⟨by omega, .inl (by omega)⟩ c2
     have hd : dd a b i k = 1 + dd a b i (k + 1) := by
      by_cases c3 : i < a.length
      ·have hne : ¬ a[i] = b[k] := fun he => c1 ⟨c3, hkb, by rw [rdOf_nat _ a i c3, rdOf_nat _ b k hkb, he]⟩
       have h4 : ¬ dd a b (i + 1) k ≤ dd a b i (k + 1) := fun h => c2 ⟨c3, .inr h⟩
       rw [dd_ne a b i k c3 hkb hne]
       unfold mn
       rw [if_pos (by omega)]
      ·obtain rfl : i = a.length := by omega
       rw [dd_end, dd_end]
       omega
     exact dgo_inv a b ha hb m _ true i (k + 1) (by omega) hi (by omega) (h.add hal hb hi hkb hd)
  ·rw [if_neg c0]
   obtain rfl : i = a.length := by omega
   obtain rfl : k = b.length := by omega
   exact ⟨gap, h⟩
theorem diffL_inv {a b : List ByteArray} (ha : lineE a = 0) (hb : lineE b = 0) : ∃ g, Inv a b (diffL a b) g a.length b.length :=
 dgo_inv a b ha hb _ [] false 0 0 (by omega) (Nat.zero_le _) (Nat.zero_le _) (Inv.start a b)
theorem diffL_cost {a b : List ByteArray} (ha : lineE a = 0) (hb : lineE b = 0) : costL (diffL a b) = (D a b : Nat) := by
 obtain ⟨g, h⟩ := diffL_inv ha hb
 have h1 := h.cost
 rw [dd_end] at h1
 have h2 : dd a b 0 0 = (D a b : Nat) := rfl
 omega
theorem diffL_apply {a b : List ByteArray} (ha : lineE a = 0) (hb : lineE b = 0) (hl : a.length + b.length ≤ 4096) : applyF a (diffL a b) = (b, 0) := by
 obtain ⟨g, h⟩ := diffL_inv ha hb
 have h1 : posE (diffL a b) = true := by
  unfold posE
  rw [decide_eq_true (by have := h.len; omega), h.pos]
  rfl
 have h2 : (diffL a b).all (fits a) = true := List.all_eq_true.2 (fun e he => fits_iff.2 (by have := h.fit e he; omega))
 have h3 := h.made
 rw [appTo_end, List.take_length] at h3
 unfold applyF
 rw [if_pos ha, if_pos h1, if_pos h2, h3]
 unfold capped
 rw [if_neg (by omega)]
theorem costL_pos : ∀ {es : List S52} {p : Option S52}, posFrom p es = true → 0 ≤ costL es ∧ (costL es = 0 → es = [])
 | [], _, _ => ⟨by simp [costL], fun _ => rfl⟩
 | x :: r, p, h => by
  simp only [posFrom, Bool.and_eq_true] at h
  obtain ⟨h1, _⟩ := costL_pos h.2
  have hg := okE_good h.1.1
  have ho := h.1.1
  simp only [okE, Bool.and_eq_true, decide_eq_true_eq, beq_iff_eq, Bool.not_eq_true', Bool.and_eq_false_iff, beq_eq_false_iff_ne] at ho
  have h3 := ho.1.2
  have h4 := hg.d0
  rw [costL]
  refine ⟨by omega, fun h => ?_⟩
  rcases h3 with h3 | h3
  ·exact absurd h (by omega)
  ·exact absurd h (by omega)
theorem diffL_nil {a b : List ByteArray} (ha : lineE a = 0) (hb : lineE b = 0) : diffL a b = [] ↔ a = b := by
 obtain ⟨g, h⟩ := diffL_inv ha hb
 constructor
 ·intro he
  have h3 := h.made
  rw [appTo_end, List.take_length, he, appFrom, List.nil_append, List.drop_zero] at h3
  exact h3
 ·rintro rfl
  have h1 := diffL_cost ha hb
  rw [D_self] at h1
  exact (costL_pos h.pos).2 h1
theorem cost_l0 (es : List S52) (hl : es.length ≤ 8192) (hb : ∀ x ∈ es, 0 ≤ x.f1 ∧ x.f1 ≤ 4096 ∧ x.f2.length ≤ 4096) : ∀ (m i : Nat) (c : Int), i + m = es.length → 0 ≤ c → c ≤ 8192 * i → Ev (fun k => salchowref49_Cost.l0 k es c i) (c + costL (es.drop i))
 | 0, i, c, h, h0, h1 => by
  rw [drop_all es i (by omega), costL, Int.add_zero]
  exact Ev.step (fun k => by simp only [salchowref49_Cost.l0]; rw [if_neg (by omega)]) (Ev.now c)
 | m + 1, i, c, h, h0, h1 => by
  have hi : i < es.length := by omega
  obtain ⟨b1, b2, b3⟩ := hb es[i] (List.getElem_mem _)
  rw [drop_at es i hi, costL]
  have e1 : wrap64 (es[i].f1 + (es[i].f2.length : Int)) = es[i].f1 + (es[i].f2.length : Int) := w64i _ (by omega)
  have e2 : wrap64 (c + (es[i].f1 + (es[i].f2.length : Int))) = c + (es[i].f1 + (es[i].f2.length : Int)) := w64i _ (by omega)
  have ih := cost_l0 es hl hb m (i + 1) (c + (es[i].f1 + (es[i].f2.length : Int))) (by omega) (by omega) (by omega)
  rw [show c + (es[i].f1 + (es[i].f2.length : Int) + costL (es.drop (i + 1))) = c + (es[i].f1 + (es[i].f2.length : Int)) + costL (es.drop (i + 1)) from by omega]
  exact Ev.step (fun k => by simp only [salchowref49_Cost.l0]; rw [rdT_nat es i hi, if_pos (by omega), if_pos (by omega), e1, e2, w1 i (by omega)]) ih
theorem cost_ev (es : List S52) (hl : es.length ≤ 8192) (hb : ∀ x ∈ es, 0 ≤ x.f1 ∧ x.f1 ≤ 4096 ∧ x.f2.length ≤ 4096) : Ev (fun k => salchowref49_Cost.f k es) (costL es) := by
 have h := cost_l0 es hl hb es.length 0 0 (by omega) (by omega) (by omega)
 rw [List.drop_zero, Int.zero_add] at h
 exact h
theorem diff_cost {a b : List ByteArray} (ha : lineE a = 0) (hb : lineE b = 0) : Ev (fun k => salchowref49_Cost.f k (diffL a b)) ((D a b : Nat) : Int) := by
 obtain ⟨g, h⟩ := diffL_inv ha hb
 rw [← diffL_cost ha hb]
 have hbl := lineE_len hb
 have hal := lineE_len ha
 exact cost_ev _ (by have := h.len; omega) (fun x hx => by
  have hg := posFrom_good h.pos x hx
  exact ⟨hg.d0, hg.d1, hg.l1⟩)
end Go.Proofs.YtfpopmojlmpopaaDoor.L

end
section
namespace Go.Proofs.YtfpopmojlmpopaaDoor.H
open Go.RowKit Go.Proofs.YtfpopmojlmpopaaDoorW.PrintWords Go.Proofs.YtfpopmojlmpopaaDoorW.PrintLast Go.Proofs.YtfpopmojlmpopaaDoorW.PrintMore
set_option linter.unusedVariables false
set_option linter.unusedSimpArgs false
def minusAt (s : ByteArray) (i : Nat) : Bool := Lib.hasPrefix (s.extract (i + 1) s.size).data.toList [45]
def fromAt (s : ByteArray) (i : Nat) : Nat := if minusAt s i then i + 2 else i + 1
def integerN (s : ByteArray) (i : Nat) : Option (Int × Nat) :=
 if i < s.size ∧ bt s i = 105 then
  if okNum (s.extract (fromAt s i) (dEnd s (fromAt s i))) = true ∧ ¬ (minusAt s i = true ∧ s.extract (fromAt s i) (dEnd s (fromAt s i)) = ⟨#[48]⟩) ∧ dEnd s (fromAt s i) < s.size ∧ bt s (dEnd s (fromAt s i) : Nat) = 59 then
   match Lib.parseIntB 64 (s.extract (i + 1) (dEnd s (fromAt s i))).data.toList with
   | .ok v => some (v, dEnd s (fromAt s i) + 1)
   | _ => none
  else none
 else none
def outN : Option (Int × Nat) → Int × Int
 | some (v, n) => (v, n)
 | none => (0, -1)
theorem minus_lt (s : ByteArray) (i : Nat) (h : minusAt s i = true) : i + 1 < s.size := by
 by_cases hc : i + 1 < s.size
 ·exact hc
 ·have : s.extract (i + 1) s.size = ⟨#[]⟩ := by
   apply ByteArray.ext
   simp only [ByteArray.data_extract]
   apply Array.extract_empty_of_size_le_start
   show s.size ≤ i + 1
   omega
  unfold minusAt at h
  rw [this] at h
  simp [Lib.hasPrefix] at h
set_option maxHeartbeats 8000000 in
set_option maxRecDepth 100000 in
theorem encode_integer_calls (s : ByteArray) (i : Nat) (hi : i ≤ s.size) (hs : s.size ≤ 140737488355328) (w : World) (hL : Laid w) :
  Calls Tryd.prog 57 #[.string s, .int .i64 i] w fun e w' => e = .returned (.tuple #[.int .i64 (outN (integerN s i)).1, .int .i64 (outN (integerN s i)).2]) ∧ Below w.heap.size w w' := by
 obtain ⟨r, hr⟩ : ∃ r, integerN s i = r := ⟨_, rfl⟩
 rw [hr]
 have HL := Lib.hid hL
 have HR := Lib.hid hr
 clear hL hr
 go_enter Tryd.func57, Tryd.ntmps57
 rcases (show i = s.size ∨ ∃ h : i < s.size, ((s[i]'h).toNat : Int) = bt s (i : Int) from by
  by_cases h : i < s.size
  ·exact .inr ⟨h, by simpa using bt_at s (i : Int) (by simpa using h)⟩
  ·exact .inl (by omega)) with hz | ⟨hz, hb⟩
 ·subst hz
  obtain rfl : r = none := by rw [← HR.out]; simp [integerN]
  go_wp2_with fail
  go_ret2
  exact ⟨rfl, Below.refl _ _⟩
 ·have x1 := eq_false (show ¬ ((s.size : Int) ≤ (i : Int)) from by omega)
  have x2 := eq_true (show (0 : Int) ≤ (i : Int) from by omega)
  have x3 := eq_true (show (i : Int) < (s.size : Int) from by omega)
  have x4 := eq_true hz
  by_cases h105 : bt s (i : Int) = 105
  ·have y1 : (((s[i]'hz).toNat : Int) == 105) = true := by rw [hb, h105]; rfl
   have y2 : (((s[i]'hz).toNat : Int) != 105) = false := by rw [bne, y1]; rfl
   have x5 := eq_true (show (0 : Int) ≤ (i : Int) + 1 from by omega)
   have x6 := eq_true (show (i : Int) + 1 ≤ (s.size : Int) from by omega)
   have x7 : ((i : Int) + 1).toNat = i + 1 := by omega
   have x8 : ((i : Int) + 2).toNat = i + 2 := by omega
   go_wp2_with fail
   refine (Tryd.strings_HasPrefix (s.extract (i + 1) s.size) ⟨#[45]⟩ w).mono ?_
   rintro e w0 ⟨rfl, hw0⟩
   rw [hw0]
   clear hw0
   obtain ⟨m, hm⟩ : ∃ m, minusAt s i = m := ⟨_, rfl⟩
   have hm' : Lib.hasPrefix (s.extract (i + 1) s.size).data.toList [45] = m := hm
   simp only [hm']
   cases m
   ·go_wp2_with fail
    obtain ⟨n, hn⟩ : ∃ n, dEnd s (i + 1) = n := ⟨_, rfl⟩
    have hnle := dEnd_le s (i + 1) (by omega)
    have hnge := dEnd_ge s (i + 1)
    refine (encode_digits_calls s (i + 1) (by omega) hs w).mono ?_
    rintro e w1 ⟨rfl, hw1⟩
    rw [hn] at hnle hnge
    have HW1 := Lib.hid hw1
    clear hw1
    simp only [hn]
    have hdz : (s.extract (i + 1) n).size = n - (i + 1) := by rw [ByteArray.size_extract]; omega
    obtain ⟨d, hd⟩ : ∃ d, s.extract (i + 1) n = d := ⟨_, rfl⟩
    rw [hd] at hdz ⊢
    obtain ⟨ok, hok⟩ : ∃ ok, okNum d = ok := ⟨_, rfl⟩
    rw [hok]
    have hfr : fromAt s i = i + 1 := by simp [fromAt, hm]
    have v1 : ((i : Int) + 1) + (d.size : Int) = (n : Int) := by omega
    clear hdz
    cases ok
    ·obtain rfl : r = none := by rw [← HR.out]; simp [integerN, hfr, hn, hd, hok]
     go_wp2_with fail
     go_ret2
     exact ⟨rfl, HW1.out.below⟩
    ·skip
     by_cases hn1 : n < s.size
     ·have q1 := eq_false (show ¬ ((s.size : Int) ≤ (n : Int)) from by omega)
      have q2 := eq_true (show (0 : Int) ≤ (n : Int) from by omega)
      have q3 := eq_true (show (n : Int) < (s.size : Int) from by omega)
      have q4 := eq_true hn1
      have q5 : ((s[n]'hn1).toNat : Int) = bt s (n : Int) := by simpa using bt_at s (n : Int) (by simpa using hn1)
      by_cases hn59 : bt s (n : Int) = 59
      ·have q6 : (((s[n]'hn1).toNat : Int) == 59) = true := by rw [q5, hn59]; rfl
       have q7 : (((s[n]'hn1).toNat : Int) != 59) = false := by rw [bne, q6]; rfl
       have p1 := eq_true (show (0 : Int) ≤ (i : Int) + 1 from by omega)
       have p2 := eq_true (show (i : Int) + 1 ≤ (n : Int) from by omega)
       have p3 := eq_true (show (n : Int) ≤ (s.size : Int) from by omega)
       go_wp2_with fail
       have hpz : (s.extract (i + 1) n).size ≤ s.size := by rw [ByteArray.size_extract]; omega
       have hpz2 : d.size ≤ s.size := by rw [← hd]; exact hpz
       cases hp : Lib.parseIntB 64 (s.extract (i + 1) n).data.toList with
       | ok v =>
        have hp2 : Lib.parseIntB 64 d.data.toList = .ok v := by rw [← hd]; exact hp
        obtain rfl : r = some (v, n + 1) := by rw [← HR.out]; simp only [integerN, hz, h105, hfr, hn, hd, hok, hn1, hn59, hp2, hm, and_self, not_false_eq_true, false_and, and_false, Bool.false_eq_true, if_true]
        refine (Tryd.strconv_ParseInt_10_at64_ok d (Nat.le_trans hpz2 (Nat.le_trans hs (by decide))) v hp2 w1).mono ?_
        rintro e w2 ⟨rfl, hw2⟩
        have HW2 : Hid (Below w.heap.size w w2) := Lib.hid (by
         rcases hw2 with rfl | ⟨t, rfl⟩
         ·exact HW1.out.below
         ·exact bytes_below HW1.out.below HW1.out.below.size _ _)
        clear hw2
        go_wp2_with fail
        go_ret2
        exact ⟨rfl, HW2.out⟩
       | range =>
        have hp2 : Lib.parseIntB 64 d.data.toList = .range := by rw [← hd]; exact hp
        obtain rfl : r = none := by rw [← HR.out]; simp only [integerN, hz, h105, hfr, hn, hd, hok, hn1, hn59, hp2, hm, and_self, not_false_eq_true, false_and, and_false, Bool.false_eq_true, if_true]
        obtain ⟨tp, p, hv⟩ := (HL.out.below HW1.out.below).range
        refine (Tryd.strconv_ParseInt_10_at64_range_var d (Nat.le_trans hpz2 (Nat.le_trans hs (by decide))) hp2 tp p w1 hv).mono ?_
        rintro e w2 ⟨N, rfl, hN, hb2, hbl⟩
        clear hv hb2
        have HW2 : Hid (Below w.heap.size w w2) := Lib.hid (HW1.out.below.trans (hbl.mono HW1.out.below.size))
        clear hbl
        go_wp2_with fail
        go_ret2
        exact ⟨rfl, HW2.out⟩
       | _ =>
        have hp2 := hp
        rw [hd] at hp2
        obtain rfl : r = none := by rw [← HR.out]; simp only [integerN, hz, h105, hfr, hn, hd, hok, hn1, hn59, hp2, hm, and_self, not_false_eq_true, false_and, and_false, Bool.false_eq_true, if_true]
        obtain ⟨tp, p, hv⟩ := (HL.out.below HW1.out.below).stx
        refine (Tryd.strconv_ParseInt_10_at64_syntax_var d (Nat.le_trans hpz2 (Nat.le_trans hs (by decide))) (hp2.trans (by kernel_rfl)) tp p w1 hv).mono ?_
        rintro e w2 ⟨N, rfl, hN, hb2, hbl⟩
        clear hv hb2
        have HW2 : Hid (Below w.heap.size w w2) := Lib.hid (HW1.out.below.trans (hbl.mono HW1.out.below.size))
        clear hbl
        go_wp2_with fail
        go_ret2
        exact ⟨rfl, HW2.out⟩
      ·obtain rfl : r = none := by rw [← HR.out]; simp [integerN, hfr, hn, hd, hn59]
       have q6 : (((s[n]'hn1).toNat : Int) == 59) = false := by rw [q5]; simpa using hn59
       have q7 : (((s[n]'hn1).toNat : Int) != 59) = true := by rw [bne, q6]; rfl
       go_wp2_with fail
       go_ret2
       exact ⟨rfl, HW1.out.below⟩
     ·obtain rfl : r = none := by rw [← HR.out]; simp [integerN, hfr, hn, hd, hn1]
      have q1 := eq_true (show ((s.size : Int) ≤ (n : Int)) from by omega)
      go_wp2_with fail
      go_ret2
      exact ⟨rfl, HW1.out.below⟩
   ·have x9 := minus_lt s i hm
    go_wp2_with fail
    obtain ⟨n, hn⟩ : ∃ n, dEnd s (i + 2) = n := ⟨_, rfl⟩
    have hnle := dEnd_le s (i + 2) (by omega)
    have hnge := dEnd_ge s (i + 2)
    refine (encode_digits_calls s (i + 2) (by omega) hs w).mono ?_
    rintro e w1 ⟨rfl, hw1⟩
    rw [hn] at hnle hnge
    have HW1 := Lib.hid hw1
    clear hw1
    simp only [hn]
    have hdz : (s.extract (i + 2) n).size = n - (i + 2) := by rw [ByteArray.size_extract]; omega
    obtain ⟨d, hd⟩ : ∃ d, s.extract (i + 2) n = d := ⟨_, rfl⟩
    rw [hd] at hdz ⊢
    obtain ⟨ok, hok⟩ : ∃ ok, okNum d = ok := ⟨_, rfl⟩
    rw [hok]
    have hfr : fromAt s i = i + 2 := by simp [fromAt, hm]
    have v1 : ((i : Int) + 1 + 1) + (d.size : Int) = (n : Int) := by omega
    clear hdz
    cases ok
    ·obtain rfl : r = none := by rw [← HR.out]; simp [integerN, hfr, hn, hd, hok]
     go_wp2_with fail
     go_ret2
     exact ⟨rfl, HW1.out.below⟩
    ·skip
     by_cases h48 : d = ⟨#[48]⟩
     ·obtain rfl : r = none := by rw [← HR.out]; simp [integerN, hfr, hn, hd, hm, h48]
      subst h48
      go_wp2_with fail
      go_ret2
      exact ⟨rfl, HW1.out.below⟩
     ·have z1 := bytes_ne d [48] ⟨#[48]⟩ rfl h48
      by_cases hn1 : n < s.size
      ·have q1 := eq_false (show ¬ ((s.size : Int) ≤ (n : Int)) from by omega)
       have q2 := eq_true (show (0 : Int) ≤ (n : Int) from by omega)
       have q3 := eq_true (show (n : Int) < (s.size : Int) from by omega)
       have q4 := eq_true hn1
       have q5 : ((s[n]'hn1).toNat : Int) = bt s (n : Int) := by simpa using bt_at s (n : Int) (by simpa using hn1)
       by_cases hn59 : bt s (n : Int) = 59
       ·have q6 : (((s[n]'hn1).toNat : Int) == 59) = true := by rw [q5, hn59]; rfl
        have q7 : (((s[n]'hn1).toNat : Int) != 59) = false := by rw [bne, q6]; rfl
        have p1 := eq_true (show (0 : Int) ≤ (i : Int) + 1 from by omega)
        have p2 := eq_true (show (i : Int) + 1 ≤ (n : Int) from by omega)
        have p3 := eq_true (show (n : Int) ≤ (s.size : Int) from by omega)
        go_wp2_with fail
        have hpz : (s.extract (i + 1) n).size ≤ s.size := by rw [ByteArray.size_extract]; omega
        have hpz2 : (s.extract (i + 1) n).size ≤ s.size := by exact hpz
        cases hp : Lib.parseIntB 64 (s.extract (i + 1) n).data.toList with
        | ok v =>
         have hp2 := hp
         obtain rfl : r = some (v, n + 1) := by rw [← HR.out]; simp only [integerN, hz, h105, hfr, hn, hd, hok, hn1, hn59, hp2, hm, h48, and_self, not_false_eq_true, false_and, and_false, Bool.false_eq_true, if_true]
         refine (Tryd.strconv_ParseInt_10_at64_ok (s.extract (i + 1) n) (Nat.le_trans hpz2 (Nat.le_trans hs (by decide))) v hp2 w1).mono ?_
         rintro e w2 ⟨rfl, hw2⟩
         have HW2 : Hid (Below w.heap.size w w2) := Lib.hid (by
          rcases hw2 with rfl | ⟨t, rfl⟩
          ·exact HW1.out.below
          ·exact bytes_below HW1.out.below HW1.out.below.size _ _)
         clear hw2
         go_wp2_with fail
         go_ret2
         exact ⟨rfl, HW2.out⟩
        | range =>
         have hp2 := hp
         obtain rfl : r = none := by rw [← HR.out]; simp only [integerN, hz, h105, hfr, hn, hd, hok, hn1, hn59, hp2, hm, h48, and_self, not_false_eq_true, false_and, and_false, Bool.false_eq_true, if_true]
         obtain ⟨tp, p, hv⟩ := (HL.out.below HW1.out.below).range
         refine (Tryd.strconv_ParseInt_10_at64_range_var (s.extract (i + 1) n) (Nat.le_trans hpz2 (Nat.le_trans hs (by decide))) hp2 tp p w1 hv).mono ?_
         rintro e w2 ⟨N, rfl, hN, hb2, hbl⟩
         clear hv hb2
         have HW2 : Hid (Below w.heap.size w w2) := Lib.hid (HW1.out.below.trans (hbl.mono HW1.out.below.size))
         clear hbl
         go_wp2_with fail
         go_ret2
         exact ⟨rfl, HW2.out⟩
        | _ =>
         have hp2 := hp
         obtain rfl : r = none := by rw [← HR.out]; simp only [integerN, hz, h105, hfr, hn, hd, hok, hn1, hn59, hp2, hm, h48, and_self, not_false_eq_true, false_and, and_false, Bool.false_eq_true, if_true]
         obtain ⟨tp, p, hv⟩ := (HL.out.below HW1.out.below).stx
         refine (Tryd.strconv_ParseInt_10_at64_syntax_var (s.extract (i + 1) n) (Nat.le_trans hpz2 (Nat.le_trans hs (by decide))) (hp2.trans (by kernel_rfl)) tp p w1 hv).mono ?_
         rintro e w2 ⟨N, rfl, hN, hb2, hbl⟩
         clear hv hb2
         have HW2 : Hid (Below w.heap.size w w2) := Lib.hid (HW1.out.below.trans (hbl.mono HW1.out.below.size))
         clear hbl
         go_wp2_with fail
         go_ret2
         exact ⟨rfl, HW2.out⟩
       ·obtain rfl : r = none := by rw [← HR.out]; simp [integerN, hfr, hn, hd, hn59]
        have q6 : (((s[n]'hn1).toNat : Int) == 59) = false := by rw [q5]; simpa using hn59
        have q7 : (((s[n]'hn1).toNat : Int) != 59) = true := by rw [bne, q6]; rfl
        go_wp2_with fail
        go_ret2
        exact ⟨rfl, HW1.out.below⟩
      ·obtain rfl : r = none := by rw [← HR.out]; simp [integerN, hfr, hn, hd, hn1]
       have q1 := eq_true (show ((s.size : Int) ≤ (n : Int)) from by omega)
       go_wp2_with fail
       go_ret2
       exact ⟨rfl, HW1.out.below⟩
  ·obtain rfl : r = none := by rw [← HR.out]; simp [integerN, h105]
   have y1 : (((s[i]'hz).toNat : Int) == 105) = false := by rw [hb]; simpa using h105
   have y2 : (((s[i]'hz).toNat : Int) != 105) = true := by rw [bne, y1]; rfl
   go_wp2_with fail
   go_ret2
   exact ⟨rfl, Below.refl _ _⟩
end Go.Proofs.YtfpopmojlmpopaaDoor.H

end
section
namespace Go.Proofs.YtfpopmojlmpopaaDoor.H
open Go.RowKit Go.Proofs.YtfpopmojlmpopaaDoorW.PrintWords Go.Proofs.YtfpopmojlmpopaaDoorW.PrintLast Go.Proofs.YtfpopmojlmpopaaDoorW.PrintMore
set_option linter.unusedVariables false
set_option linter.unusedSimpArgs false
theorem digits_list (s : ByteArray) (i : Nat) : (s.extract i (dEnd s i)).data.toList = (s.data.toList.drop i).takeWhile isDig := by
 rw [ByteArray.data_extract, Array.toList_extract, List.extract_eq_take_drop]
 have h : (s.data.toList.drop i).takeWhile isDig <+: s.data.toList.drop i := List.takeWhile_prefix _
 rw [List.prefix_iff_eq_take] at h
 rw [show dEnd s i - i = ((s.data.toList.drop i).takeWhile isDig).length from by unfold dEnd; omega]
 exact h.symm
theorem atoi_nonneg (s : ByteArray) (i : Nat) (v : Int) (h : Lib.atoiAll (s.extract i (dEnd s i)).data.toList = .ok v) : 0 ≤ v := by
 rw [digits_list] at h
 have ha := List.all_takeWhile (p := isDig) (l := s.data.toList.drop i)
 cases hl : (s.data.toList.drop i).takeWhile isDig with
 | nil => rw [hl] at h; simp [Lib.atoiAll] at h
 | cons c r =>
  rw [hl] at h ha
  simp only [List.all_cons, Bool.and_eq_true, isDig, decide_eq_true_eq] at ha
  have hc : ¬ c.toNat = 45 := by omega
  simp only [Lib.atoiAll, hc, if_false, or_false, not_false_eq_true, true_and, false_and] at h
  split at h
  ·cases h
  ·cases h
  ·split at h
   ·cases h
   ·injection h with h; omega
def textN (s : ByteArray) (i : Nat) : Option (Nat × Nat) :=
 if okNum (s.extract i (dEnd s i)) = true ∧ dEnd s i < s.size ∧ bt s (dEnd s i : Nat) = 58 then
  match Lib.atoiAll (s.extract i (dEnd s i)).data.toList with
  | .ok v => if dEnd s i + 1 + v.toNat ≤ s.size then some (dEnd s i + 1, dEnd s i + 1 + v.toNat) else none
  | _ => none
 else none
def outT (s : ByteArray) : Option (Nat × Nat) → ByteArray × Int
 | some (a, b) => (s.extract a b, b)
 | none => (⟨#[]⟩, -1)
set_option maxHeartbeats 8000000 in
set_option maxRecDepth 100000 in
theorem encode_text_calls (s : ByteArray) (i : Nat) (hi : i ≤ s.size) (hs : s.size ≤ 140737488355328) (w : World) (hL : Laid w) :
  Calls Tryd.prog 71 #[.string s, .int .i64 i] w fun e w' => e = .returned (.tuple #[.string (outT s (textN s i)).1, .int .i64 (outT s (textN s i)).2]) ∧ Below w.heap.size w w' := by
 obtain ⟨r, hr⟩ : ∃ r, textN s i = r := ⟨_, rfl⟩
 rw [hr]
 have HL := Lib.hid hL
 have HR := Lib.hid hr
 clear hL hr
 go_enter Tryd.func71, Tryd.ntmps71
 go_wp2_with fail
 obtain ⟨n, hn⟩ : ∃ n, dEnd s i = n := ⟨_, rfl⟩
 have hnle := dEnd_le s i (by omega)
 have hnge := dEnd_ge s i
 refine (encode_digits_calls s i (by omega) hs w).mono ?_
 rintro e w1 ⟨rfl, hw1⟩
 rw [hn] at hnle hnge
 have HW1 := Lib.hid hw1
 clear hw1
 simp only [hn]
 have hdz : (s.extract i n).size = n - i := by rw [ByteArray.size_extract]; omega
 have hnn : ∀ v, Lib.atoiAll (s.extract i n).data.toList = .ok v → 0 ≤ v := by rw [← hn]; exact atoi_nonneg s i
 obtain ⟨d, hd⟩ : ∃ d, s.extract i n = d := ⟨_, rfl⟩
 rw [hd] at hdz hnn ⊢
 obtain ⟨ok, hok⟩ : ∃ ok, okNum d = ok := ⟨_, rfl⟩
 rw [hok]
 have HNN := Lib.hid hnn
 have v1 : (i : Int) + (d.size : Int) = (n : Int) := by omega
 have hdz2 : d.size ≤ 9223372036854775806 := by omega
 have hdz3 : d.size ≤ 281474976710656 := by omega
 clear hdz hnn
 cases ok
 ·obtain rfl : r = none := by rw [← HR.out]; simp [textN, hn, hd, hok]
  go_wp2_with fail
  go_ret2
  exact ⟨rfl, HW1.out.below⟩
 ·by_cases hn1 : n < s.size
  ·have q1 := eq_false (show ¬ ((s.size : Int) ≤ (n : Int)) from by omega)
   have q2 := eq_true (show (0 : Int) ≤ (n : Int) from by omega)
   have q3 := eq_true (show (n : Int) < (s.size : Int) from by omega)
   have q4 := eq_true hn1
   have q5 : ((s[n]'hn1).toNat : Int) = bt s (n : Int) := by simpa using bt_at s (n : Int) (by simpa using hn1)
   by_cases hn58 : bt s (n : Int) = 58
   ·have q6 : (((s[n]'hn1).toNat : Int) == 58) = true := by rw [q5, hn58]; rfl
    have q7 : (((s[n]'hn1).toNat : Int) != 58) = false := by rw [bne, q6]; rfl
    go_wp2_with fail
    cases hp : Lib.atoiAll d.data.toList with
    | ok v =>
     have hv0 := HNN.out v hp
     refine (Tryd.strconv_Atoi_ok d hdz2 v hp w1).mono ?_
     rintro e w2 ⟨rfl, hw2⟩
     have HW2 : Hid (Below w.heap.size w w2) := Lib.hid (by
      rcases hw2 with rfl | ⟨t, rfl⟩
      ·exact HW1.out.below
      ·exact bytes_below HW1.out.below HW1.out.below.size _ _)
     clear hw2
     obtain ⟨m, rfl⟩ := Int.eq_ofNat_of_zero_le hv0
     by_cases hfit : n + 1 + m ≤ s.size
     ·obtain rfl : r = some (n + 1, n + 1 + m) := by rw [← HR.out]; simp only [textN, hn, hd, hok, hn1, hn58, hp, and_self, if_true, Int.toNat_natCast, hfit]
      have f1 := eq_false (show ¬ ((s.size : Int) - (n : Int) - 1 < (m : Int)) from by omega)
      have f2 := eq_true (show (0 : Int) ≤ (n : Int) + 1 from by omega)
      have f3 := eq_true (show (n : Int) + 1 ≤ (n : Int) + 1 + (m : Int) from by omega)
      have f4 := eq_true (show (n : Int) + 1 + (m : Int) ≤ (s.size : Int) from by omega)
      have f5 : ((n : Int) + 1).toNat = n + 1 := by omega
      have f6 : ((n : Int) + 1 + (m : Int)).toNat = n + 1 + m := by omega
      go_wp2_with fail
      go_ret2
      exact ⟨rfl, HW2.out⟩
     ·obtain rfl : r = none := by rw [← HR.out]; simp only [textN, hn, hd, hok, hn1, hn58, hp, and_self, if_true, Int.toNat_natCast, hfit, if_false]
      have f1 := eq_true (show ((s.size : Int) - (n : Int) - 1 < (m : Int)) from by omega)
      go_wp2_with fail
      go_ret2
      exact ⟨rfl, HW2.out⟩
    | range =>
     obtain rfl : r = none := by rw [← HR.out]; simp only [textN, hn, hd, hok, hn1, hn58, hp, and_self, if_true]
     obtain ⟨tp, p, hv⟩ := (HL.out.below HW1.out.below).range
     refine (Tryd.strconv_Atoi_range_var d hdz3 hp tp p w1 hv).mono ?_
     rintro e w2 ⟨N, rfl, hN, hb2, hbl⟩
     clear hv hb2
     have HW2 : Hid (Below w.heap.size w w2) := Lib.hid (HW1.out.below.trans (hbl.mono HW1.out.below.size))
     clear hbl
     go_wp2_with fail
     go_ret2
     exact ⟨rfl, HW2.out⟩
    | _ =>
     obtain rfl : r = none := by rw [← HR.out]; simp only [textN, hn, hd, hok, hn1, hn58, hp, and_self, if_true]
     obtain ⟨tp, p, hv⟩ := (HL.out.below HW1.out.below).stx
     refine (Tryd.strconv_Atoi_syntax_var d hdz3 (hp.trans (by kernel_rfl)) tp p w1 hv).mono ?_
     rintro e w2 ⟨N, rfl, hN, hb2, hbl⟩
     clear hv hb2
     have HW2 : Hid (Below w.heap.size w w2) := Lib.hid (HW1.out.below.trans (hbl.mono HW1.out.below.size))
     clear hbl
     go_wp2_with fail
     go_ret2
     exact ⟨rfl, HW2.out⟩
   ·obtain rfl : r = none := by rw [← HR.out]; simp [textN, hn, hd, hn58]
    have q6 : (((s[n]'hn1).toNat : Int) == 58) = false := by rw [q5]; simpa using hn58
    have q7 : (((s[n]'hn1).toNat : Int) != 58) = true := by rw [bne, q6]; rfl
    go_wp2_with fail
    go_ret2
    exact ⟨rfl, HW1.out.below⟩
  ·obtain rfl : r = none := by rw [← HR.out]; simp [textN, hn, hd, hn1]
   have q1 := eq_true (show ((s.size : Int) ≤ (n : Int)) from by omega)
   go_wp2_with fail
   go_ret2
   exact ⟨rfl, HW1.out.below⟩
end Go.Proofs.YtfpopmojlmpopaaDoor.H

end
section
namespace Go.Proofs.YtfpopmojlmpopaaDoor.G
open Go.RowKit Go.Proofs.YtfpopmojlmpopaaDoorW.PrintWords Go.Proofs.YtfpopmojlmpopaaDoorW.PrintLast Go.Proofs.YtfpopmojlmpopaaDoorW.PrintMore
attribute [local go_sem] max2_int min2_int max_two min_two max_three min_three max_four min_four
set_option linter.unusedVariables false
set_option linter.unusedSimpArgs false
def frame_isDisplay.f (a0 : Int) : Option (Bool) := if 1 ≤ a0 then (some (decide (a0 ≤ 16))) else (some false)
set_option maxHeartbeats 8000000 in
set_option maxRecDepth 100000 in
theorem frame_isDisplay.calls (a0 : Int) (r : Bool) (w : World) (h : frame_isDisplay.f a0 = some r) :
  Calls Tryd.prog 60 #[.int .i64 a0] w fun e w' => e = .returned (.bool r) ∧ Drawn0 w w' := by
 have H : (if 1 ≤ a0 then (some (decide (a0 ≤ 16))) else (some false)) = some r := h
 clear h
 by_cases c2 : 1 ≤ a0
 ·rw [if_pos c2] at H
  have c2b0 : decide (1 ≤ a0) = true := decide_eq_true c2
  clear c2
  obtain rfl := Option.some.inj H
  go_enter Tryd.func60, Tryd.ntmps60
  go_wp2
  go_ret
  exact ⟨by first | rfl | (simp; done) | (simp [*]; done), by repeat (first | exact Drawn0.refl _ | apply Drawn0.step)⟩
 ·rw [if_neg c2] at H
  have c2b0 : decide (1 ≤ a0) = false := decide_eq_false c2
  clear c2
  obtain rfl := Option.some.inj H
  go_enter Tryd.func60, Tryd.ntmps60
  go_wp2
  go_ret
  exact ⟨by first | rfl | (simp; done) | (simp [*]; done), by repeat (first | exact Drawn0.refl _ | apply Drawn0.step)⟩
def frame_routed.j0 : Nat → Int → Bool → Int → Int → Int → Int → Int → List ByteArray → List (S52) → Option (Bool)
 | 0, _, _, _, _, _, _, _, _, _ => none
 | k + 1, x4, x5, x312000, x312001, x312002, x312003, x312004, x312005, x312006 => if x5 = true then ((frame_isDisplay.f x312001).bind fun t312 => (if t312 = true then (if x312002 = 0 then (if (x312005.length : Int) = 0 then (some ((x312006.length : Int) == 0)) else (some false)) else (some false)) else (some false))) else (if x4 = 2 then (if x312001 = 0 then ((frame_isDisplay.f x312002).bind fun t313 => (if t313 = true then (some ((x312006.length : Int) == 0)) else (some false))) else (some false)) else (if x4 = 3 then (if x312001 = 0 then ((frame_isDisplay.f x312002).bind fun t314 => (if t314 = true then (some ((x312005.length : Int) == 0)) else (some false))) else (some false)) else (if x4 = 4 then (if x312001 = 0 then ((frame_isDisplay.f x312002).bind fun t315 => (if t315 = true then (if (x312005.length : Int) = 0 then (some ((x312006.length : Int) == 0)) else (some false)) else (some false))) else (some false)) else (some false))))
def frame_routed.f (k : Nat) (a0_0 : Int) (a0_1 : Int) (a0_2 : Int) (a0_3 : Int) (a0_4 : Int) (l0_5 : List ByteArray) (l0_6 : List (S52)) : Option (Bool) := if a0_0 = 1 then (frame_routed.j0 k a0_0 (a0_0 == 1) a0_0 a0_1 a0_2 a0_3 a0_4 l0_5 l0_6) else (frame_routed.j0 k a0_0 (a0_0 == 5) a0_0 a0_1 a0_2 a0_3 a0_4 l0_5 l0_6)
set_option maxHeartbeats 8000000 in
set_option maxRecDepth 100000 in
theorem frame_routed.calls (k : Nat) (a0_0 : Int) (a0_1 : Int) (a0_2 : Int) (a0_3 : Int) (a0_4 : Int) (A0_5 : Option Addr) (c0_5 : Nat) (l0_5 : List ByteArray) (A0_6 : Option Addr) (c0_6 : Nat) (l0_6 : List (S52)) (r : Bool) (w : World) (hr0_5 : Kd.C Kd.string w A0_5 l0_5.length l0_5) (hc0_5 : l0_5.length ≤ c0_5) (hr0_6 : Kd.C k52 w A0_6 l0_6.length l0_6) (hc0_6 : l0_6.length ≤ c0_6) (h : frame_routed.f k a0_0 a0_1 a0_2 a0_3 a0_4 l0_5 l0_6 = some r) :
  Calls Tryd.prog 52 #[.agg #[.int .i64 a0_0, .int .i64 a0_1, .int .i64 a0_2, .int .i64 a0_3, .int .i64 a0_4, .slice A0_5 l0_5.length c0_5, .slice A0_6 l0_6.length c0_6]] w fun e w' => e = .returned (.bool r) ∧ Below w.heap.size w w' := by
 have hu31 := Tryd.underlying31
 have HR0_5 := Aside0.mk hr0_5
 have HC0_5 := Aside0.mk hc0_5
 clear hr0_5 hc0_5
 have HR0_6 := Aside0.mk hr0_6
 have HC0_6 := Aside0.mk hc0_6
 clear hr0_6 hc0_6
 have HB := Aside0.mk (Below.refl w.heap.size w)
 have H : (if a0_0 = 1 then (frame_routed.j0 k a0_0 (a0_0 == 1) a0_0 a0_1 a0_2 a0_3 a0_4 l0_5 l0_6) else (frame_routed.j0 k a0_0 (a0_0 == 5) a0_0 a0_1 a0_2 a0_3 a0_4 l0_5 l0_6)) = some r := h
 clear h
 have HC2 := Aside0.mk H
 clear H
 go_enter Tryd.func52, Tryd.ntmps52
 go_upto_if 5 with (first | ((with_reducible refine gate_dst (N := 1) rfl ?_); (try (refine gate_guard (by rfl) ?_; dsimp only)); refine box_event ?hg (N := 1) ?hd (cs := #[.int .i64 a0_0, .int .i64 a0_1, .int .i64 a0_2, .int .i64 a0_3, .int .i64 a0_4, .slice A0_5 l0_5.length c0_5, .slice A0_6 l0_6.length c0_6]) (t := 31) ?hr ?_; (case hd => rfl); (case hg => rfl); (case hr => first | (go_simp; done) | (go_simp; rfl)); intro gb311 hg w3 hbox hb; have n0_ := Aside0.mk (below_step (by repeat (first | (with_reducible first | exact HB.out | apply below_alloc | apply pw_below_drewN | apply below_drew1) | exact HB.out)) hb); have n1_ := Aside0.mk (hbox); have n2_ := Aside0.mk ((by rw [hg]; exact (below_size (by repeat (first | (with_reducible first | exact HB.out | apply below_alloc | apply pw_below_drewN | apply below_drew1) | exact HB.out))) : w.heap.size ≤ gb311)); have n3_ := Aside0.mk ((by rw [hg]; exact (below_size (by repeat (first | (with_reducible first | exact HB.out | apply below_alloc | apply pw_below_drewN | apply below_drew1) | exact HB.out))) : w.heap.size ≤ gb311)); clear HB; have HB := n0_; have BK311 := n1_; have GW311 := n2_; have GE311 := n3_; clear n0_ n1_ n2_ n3_; clear hb hbox hg; have hcz4_0 : w3.cell? ⟨gb311, 0, none⟩ = some (.int .i64 a0_0) := (blk_cell BK311.out 0).trans rfl; have hcz4_1 : w3.cell? ⟨gb311, 1, none⟩ = some (.int .i64 a0_1) := (blk_cell BK311.out 1).trans rfl; have hcz4_2 : w3.cell? ⟨gb311, 2, none⟩ = some (.int .i64 a0_2) := (blk_cell BK311.out 2).trans rfl; have hcz4_3 : w3.cell? ⟨gb311, 3, none⟩ = some (.int .i64 a0_3) := (blk_cell BK311.out 3).trans rfl; have hcz4_4 : w3.cell? ⟨gb311, 4, none⟩ = some (.int .i64 a0_4) := (blk_cell BK311.out 4).trans rfl; have hcz4_5 : w3.cell? ⟨gb311, 5, none⟩ = some (.slice A0_5 l0_5.length c0_5) := (blk_cell BK311.out 5).trans rfl; have hcz4_6 : w3.cell? ⟨gb311, 6, none⟩ = some (.slice A0_6 l0_6.length c0_6) := (blk_cell BK311.out 6).trans rfl; have hfz4_0 := blk_frozen BK311.out 0; have hfz4_1 := blk_frozen BK311.out 1; have hfz4_2 := blk_frozen BK311.out 2; have hfz4_3 := blk_frozen BK311.out 3; have hfz4_4 := blk_frozen BK311.out 4; have hfz4_5 := blk_frozen BK311.out 5; have hfz4_6 := blk_frozen BK311.out 6))
 (try simp only [Act.put, sA_, sB_, sC_])
 go_cut [5] (fun v5 wc => ∃ (kq : Nat) (x5_1 : Bool), v5 = .bool x5_1 ∧ Aside0 (frame_routed.j0 kq a0_0 x5_1 a0_0 a0_1 a0_2 a0_3 a0_4 l0_5 l0_6 = some r) ∧ Aside0 (kq ≤ k) ∧ Aside0 (wc.heap[gb311]? = some (.cells #[.int .i64 a0_0, .int .i64 a0_1, .int .i64 a0_2, .int .i64 a0_3, .int .i64 a0_4, (.slice A0_5 l0_5.length c0_5), (.slice A0_6 l0_6.length c0_6)] 31 (0, 0))) ∧ Aside0 (Below w.heap.size w wc))
 case first =>
  have H := HC2.out
  clear HC2
  by_cases c5 : a0_0 = 1
  ·rw [if_pos c5] at H
   have c5b0 : (a0_0 == 1) = true := beq_iff_eq.mpr c5
   have c5b1 : (a0_0 != 1) = false := bne_eq_false_iff_eq.mpr c5
   clear c5
   (first | rw [c5b0] | (simp only [i64_w, i32_w]; rw [c5b0]) | skip)
   have H' := Aside0.mk H
   clear H
   go_wp2
   go_meet
   case rel => exact ⟨_, ((a0_0 == 1)), (by first | rfl | (simp; done) | (simp [*]; done)), H', ⟨by first | omega | exact Nat.le_refl _⟩, ⟨by (with_reducible repeat (first | refine blk_drewN ?_ _ | refine blk_drew ?_ | refine blk_alloc ?_ _)); exact BK311.out⟩, ⟨by repeat (first | (with_reducible first | exact HB.out | apply below_alloc | apply pw_below_drewN | apply below_drew1 | refine below_set ?_ GE311.out) | exact HB.out)⟩⟩
  ·rw [if_neg c5] at H
   have c5b0 : (a0_0 == 1) = false := beq_eq_false_iff_ne.mpr c5
   have c5b1 : (a0_0 != 1) = true := bne_iff_ne.mpr c5
   (first | rw [c5b0] | (simp only [i64_w, i32_w]; rw [c5b0]) | skip)
   have H' := Aside0.mk H
   clear H
   go_wp2
   go_meet
   case rel => exact ⟨_, ((a0_0 == 5)), (by first | rfl | (simp; done) | (simp [*]; done)), H', ⟨by first | omega | exact Nat.le_refl _⟩, ⟨by (with_reducible repeat (first | refine blk_drewN ?_ _ | refine blk_drew ?_ | refine blk_alloc ?_ _)); exact BK311.out⟩, ⟨by repeat (first | (with_reducible first | exact HB.out | apply below_alloc | apply pw_below_drewN | apply below_drew1 | refine below_set ?_ GE311.out) | exact HB.out)⟩⟩
 case rest =>
  clear HC2
  try clear p2
  try clear c5
  try clear c5b0
  try clear c5b1
  try clear hcz4_0
  try clear hcz4_1
  try clear hcz4_2
  try clear hcz4_3
  try clear hcz4_4
  try clear hcz4_5
  try clear hcz4_6
  try clear hfz4_0
  try clear hfz4_1
  try clear hfz4_2
  try clear hfz4_3
  try clear hfz4_4
  try clear hfz4_5
  try clear hfz4_6
  obtain ⟨kq, x5_1, rfl, HA, HJ1, BK311, HB⟩ := hcut
  cases kq with
  | zero => exact absurd HA.out (by simp [frame_routed.j0])
  | succ kj1 =>
   have H := HA.out
   clear HA
   simp only [frame_routed.j0] at H
   by_cases c6 : x5_1 = true
   ·subst c6
    have H1 : ((frame_isDisplay.f a0_1).bind fun t312 => (if t312 = true then (if a0_2 = 0 then (if (l0_5.length : Int) = 0 then (some ((l0_6.length : Int) == 0)) else (some false)) else (some false)) else (some false))) = some r := by rw [if_pos rfl] at H; exact H
    clear H
    have H := H1
    clear H1
    replace H := Option.bind_eq_some_iff.mp H
    obtain ⟨t312, A70, H⟩ := H
    replace H : (if t312 = true then (if a0_2 = 0 then (if (l0_5.length : Int) = 0 then (some ((l0_6.length : Int) == 0)) else (some false)) else (some false)) else (some false)) = some r := H
    have A7 := Aside0.mk A70
    clear A70
    by_cases c8 : t312 = true
    ·subst c8
     have H1 : (if a0_2 = 0 then (if (l0_5.length : Int) = 0 then (some ((l0_6.length : Int) == 0)) else (some false)) else (some false)) = some r := by rw [if_pos rfl] at H; exact H
     clear H
     have H := H1
     clear H1
     by_cases c9 : a0_2 = 0
     ·rw [if_pos c9] at H
      have c9b0 : (a0_2 == 0) = true := beq_iff_eq.mpr c9
      have c9b1 : (a0_2 != 0) = false := bne_eq_false_iff_eq.mpr c9
      clear c9
      by_cases c10 : (l0_5.length : Int) = 0
      ·rw [if_pos c10] at H
       have c10b0 : ((l0_5.length : Int) == 0) = true := beq_iff_eq.mpr c10
       have c10b1 : ((l0_5.length : Int) != 0) = false := bne_eq_false_iff_eq.mpr c10
       clear c10
       obtain rfl := Option.some.inj H
       have hcz11_0 : wc.cell? ⟨gb311, 0, none⟩ = some (.int .i64 a0_0) := (blk_cell BK311.out 0).trans rfl
       have hcz11_1 : wc.cell? ⟨gb311, 1, none⟩ = some (.int .i64 a0_1) := (blk_cell BK311.out 1).trans rfl
       have hcz11_2 : wc.cell? ⟨gb311, 2, none⟩ = some (.int .i64 a0_2) := (blk_cell BK311.out 2).trans rfl
       have hcz11_3 : wc.cell? ⟨gb311, 3, none⟩ = some (.int .i64 a0_3) := (blk_cell BK311.out 3).trans rfl
       have hcz11_4 : wc.cell? ⟨gb311, 4, none⟩ = some (.int .i64 a0_4) := (blk_cell BK311.out 4).trans rfl
       have hcz11_5 : wc.cell? ⟨gb311, 5, none⟩ = some (.slice A0_5 l0_5.length c0_5) := (blk_cell BK311.out 5).trans rfl
       have hcz11_6 : wc.cell? ⟨gb311, 6, none⟩ = some (.slice A0_6 l0_6.length c0_6) := (blk_cell BK311.out 6).trans rfl
       have hfz11_0 := blk_frozen BK311.out 0
       have hfz11_1 := blk_frozen BK311.out 1
       have hfz11_2 := blk_frozen BK311.out 2
       have hfz11_3 := blk_frozen BK311.out 3
       have hfz11_4 := blk_frozen BK311.out 4
       have hfz11_5 := blk_frozen BK311.out 5
       have hfz11_6 := blk_frozen BK311.out 6
       go_wp2_with (first | ((with_reducible refine gate_callee (f := 60) rfl ?_); refine goesL_ (some 10) rfl rfl Tryd.func60 (by kernel_rfl) rfl #[.int .i64 a0_1] rfl (by (try simp only [List.map_toArray, List.map_cons, List.map_nil]); first | done | rfl | (simp only [List.length_drop, List.length_take]; rfl)) ?_; (with_reducible refine (frame_isDisplay.calls a0_1 true _ A7.out).mono ?_); rintro e w' ⟨rfl, ⟨nd, rfl⟩⟩; refine ⟨_, rfl, ?_⟩))
       go_ret
       exact ⟨by first | rfl | (simp [errW_none, errW_some] <;> rfl) | (simp [*, errW_none, errW_some] <;> rfl), by repeat (first | (with_reducible first | exact HB.out | apply below_alloc | apply pw_below_drewN | apply below_drew1 | refine below_set ?_ GE311.out) | exact HB.out)⟩
      ·rw [if_neg c10] at H
       have c10b0 : ((l0_5.length : Int) == 0) = false := beq_eq_false_iff_ne.mpr c10
       have c10b1 : ((l0_5.length : Int) != 0) = true := bne_iff_ne.mpr c10
       have c10b2 : ¬ (l0_5 = []) := fun h_ => c10 (by rw [h_]; rfl)
       obtain rfl := Option.some.inj H
       have hcz12_0 : wc.cell? ⟨gb311, 0, none⟩ = some (.int .i64 a0_0) := (blk_cell BK311.out 0).trans rfl
       have hcz12_1 : wc.cell? ⟨gb311, 1, none⟩ = some (.int .i64 a0_1) := (blk_cell BK311.out 1).trans rfl
       have hcz12_2 : wc.cell? ⟨gb311, 2, none⟩ = some (.int .i64 a0_2) := (blk_cell BK311.out 2).trans rfl
       have hcz12_3 : wc.cell? ⟨gb311, 3, none⟩ = some (.int .i64 a0_3) := (blk_cell BK311.out 3).trans rfl
       have hcz12_4 : wc.cell? ⟨gb311, 4, none⟩ = some (.int .i64 a0_4) := (blk_cell BK311.out 4).trans rfl
       have hcz12_5 : wc.cell? ⟨gb311, 5, none⟩ = some (.slice A0_5 l0_5.length c0_5) := (blk_cell BK311.out 5).trans rfl
       have hcz12_6 : wc.cell? ⟨gb311, 6, none⟩ = some (.slice A0_6 l0_6.length c0_6) := (blk_cell BK311.out 6).trans rfl
       have hfz12_0 := blk_frozen BK311.out 0
       have hfz12_1 := blk_frozen BK311.out 1
       have hfz12_2 := blk_frozen BK311.out 2
       have hfz12_3 := blk_frozen BK311.out 3
       have hfz12_4 := blk_frozen BK311.out 4
       have hfz12_5 := blk_frozen BK311.out 5
       have hfz12_6 := blk_frozen BK311.out 6
       go_wp2_with (first | ((with_reducible refine gate_callee (f := 60) rfl ?_); refine goesL_ (some 10) rfl rfl Tryd.func60 (by kernel_rfl) rfl #[.int .i64 a0_1] rfl (by (try simp only [List.map_toArray, List.map_cons, List.map_nil]); first | done | rfl | (simp only [List.length_drop, List.length_take]; rfl)) ?_; (with_reducible refine (frame_isDisplay.calls a0_1 true _ A7.out).mono ?_); rintro e w' ⟨rfl, ⟨nd, rfl⟩⟩; refine ⟨_, rfl, ?_⟩))
       go_ret
       exact ⟨by first | rfl | (simp [errW_none, errW_some] <;> rfl) | (simp [*, errW_none, errW_some] <;> rfl), by repeat (first | (with_reducible first | exact HB.out | apply below_alloc | apply pw_below_drewN | apply below_drew1 | refine below_set ?_ GE311.out) | exact HB.out)⟩
     ·rw [if_neg c9] at H
      have c9b0 : (a0_2 == 0) = false := beq_eq_false_iff_ne.mpr c9
      have c9b1 : (a0_2 != 0) = true := bne_iff_ne.mpr c9
      obtain rfl := Option.some.inj H
      have hcz13_0 : wc.cell? ⟨gb311, 0, none⟩ = some (.int .i64 a0_0) := (blk_cell BK311.out 0).trans rfl
      have hcz13_1 : wc.cell? ⟨gb311, 1, none⟩ = some (.int .i64 a0_1) := (blk_cell BK311.out 1).trans rfl
      have hcz13_2 : wc.cell? ⟨gb311, 2, none⟩ = some (.int .i64 a0_2) := (blk_cell BK311.out 2).trans rfl
      have hcz13_3 : wc.cell? ⟨gb311, 3, none⟩ = some (.int .i64 a0_3) := (blk_cell BK311.out 3).trans rfl
      have hcz13_4 : wc.cell? ⟨gb311, 4, none⟩ = some (.int .i64 a0_4) := (blk_cell BK311.out 4).trans rfl
      have hcz13_5 : wc.cell? ⟨gb311, 5, none⟩ = some (.slice A0_5 l0_5.length c0_5) := (blk_cell BK311.out 5).trans rfl
      have hcz13_6 : wc.cell? ⟨gb311, 6, none⟩ = some (.slice A0_6 l0_6.length c0_6) := (blk_cell BK311.out 6).trans rfl
      have hfz13_0 := blk_frozen BK311.out 0
      have hfz13_1 := blk_frozen BK311.out 1
      have hfz13_2 := blk_frozen BK311.out 2
      have hfz13_3 := blk_frozen BK311.out 3
      have hfz13_4 := blk_frozen BK311.out 4
      have hfz13_5 := blk_frozen BK311.out 5
      have hfz13_6 := blk_frozen BK311.out 6
      go_wp2_with (first | ((with_reducible refine gate_callee (f := 60) rfl ?_); refine goesL_ (some 10) rfl rfl Tryd.func60 (by kernel_rfl) rfl #[.int .i64 a0_1] rfl (by (try simp only [List.map_toArray, List.map_cons, List.map_nil]); first | done | rfl | (simp only [List.length_drop, List.length_take]; rfl)) ?_; (with_reducible refine (frame_isDisplay.calls a0_1 true _ A7.out).mono ?_); rintro e w' ⟨rfl, ⟨nd, rfl⟩⟩; refine ⟨_, rfl, ?_⟩))
      go_ret
      exact ⟨by first | rfl | (simp [errW_none, errW_some] <;> rfl) | (simp [*, errW_none, errW_some] <;> rfl), by repeat (first | (with_reducible first | exact HB.out | apply below_alloc | apply pw_below_drewN | apply below_drew1 | refine below_set ?_ GE311.out) | exact HB.out)⟩
    ·replace c8 := Bool.eq_false_iff.mpr c8
     subst c8
     have H1 : (some false) = some r := by rw [if_neg (show ¬ (false = true) by decide)] at H; exact H
     clear H
     have H := H1
     clear H1
     obtain rfl := Option.some.inj H
     have hcz14_0 : wc.cell? ⟨gb311, 0, none⟩ = some (.int .i64 a0_0) := (blk_cell BK311.out 0).trans rfl
     have hcz14_1 : wc.cell? ⟨gb311, 1, none⟩ = some (.int .i64 a0_1) := (blk_cell BK311.out 1).trans rfl
     have hcz14_2 : wc.cell? ⟨gb311, 2, none⟩ = some (.int .i64 a0_2) := (blk_cell BK311.out 2).trans rfl
     have hcz14_3 : wc.cell? ⟨gb311, 3, none⟩ = some (.int .i64 a0_3) := (blk_cell BK311.out 3).trans rfl
     have hcz14_4 : wc.cell? ⟨gb311, 4, none⟩ = some (.int .i64 a0_4) := (blk_cell BK311.out 4).trans rfl
     have hcz14_5 : wc.cell? ⟨gb311, 5, none⟩ = some (.slice A0_5 l0_5.length c0_5) := (blk_cell BK311.out 5).trans rfl
     have hcz14_6 : wc.cell? ⟨gb311, 6, none⟩ = some (.slice A0_6 l0_6.length c0_6) := (blk_cell BK311.out 6).trans rfl
     have hfz14_0 := blk_frozen BK311.out 0
     have hfz14_1 := blk_frozen BK311.out 1
     have hfz14_2 := blk_frozen BK311.out 2
     have hfz14_3 := blk_frozen BK311.out 3
     have hfz14_4 := blk_frozen BK311.out 4
     have hfz14_5 := blk_frozen BK311.out 5
     have hfz14_6 := blk_frozen BK311.out 6
     go_wp2_with (first | ((with_reducible refine gate_callee (f := 60) rfl ?_); refine goesL_ (some 10) rfl rfl Tryd.func60 (by kernel_rfl) rfl #[.int .i64 a0_1] rfl (by (try simp only [List.map_toArray, List.map_cons, List.map_nil]); first | done | rfl | (simp only [List.length_drop, List.length_take]; rfl)) ?_; (with_reducible refine (frame_isDisplay.calls a0_1 false _ A7.out).mono ?_); rintro e w' ⟨rfl, ⟨nd, rfl⟩⟩; refine ⟨_, rfl, ?_⟩))
     go_ret
     exact ⟨by first | rfl | (simp [errW_none, errW_some] <;> rfl) | (simp [*, errW_none, errW_some] <;> rfl), by repeat (first | (with_reducible first | exact HB.out | apply below_alloc | apply pw_below_drewN | apply below_drew1 | refine below_set ?_ GE311.out) | exact HB.out)⟩
   ·replace c6 := Bool.eq_false_iff.mpr c6
    subst c6
    have H1 : (if a0_0 = 2 then (if a0_1 = 0 then ((frame_isDisplay.f a0_2).bind fun t313 => (if t313 = true then (some ((l0_6.length : Int) == 0)) else (some false))) else (some false)) else (if a0_0 = 3 then (if a0_1 = 0 then ((frame_isDisplay.f a0_2).bind fun t314 => (if t314 = true then (some ((l0_5.length : Int) == 0)) else (some false))) else (some false)) else (if a0_0 = 4 then (if a0_1 = 0 then ((frame_isDisplay.f a0_2).bind fun t315 => (if t315 = true then (if (l0_5.length : Int) = 0 then (some ((l0_6.length : Int) == 0)) else (some false)) else (some false))) else (some false)) else (some false)))) = some r := by rw [if_neg (show ¬ (false = true) by decide)] at H; exact H
    clear H
    have H := H1
    clear H1
    by_cases c15 : a0_0 = 2
    ·rw [if_pos c15] at H
     have c15b0 : (a0_0 == 2) = true := beq_iff_eq.mpr c15
     have c15b1 : (a0_0 != 2) = false := bne_eq_false_iff_eq.mpr c15
     clear c15
     by_cases c16 : a0_1 = 0
     ·rw [if_pos c16] at H
      have c16b0 : (a0_1 == 0) = true := beq_iff_eq.mpr c16
      have c16b1 : (a0_1 != 0) = false := bne_eq_false_iff_eq.mpr c16
      clear c16
      replace H := Option.bind_eq_some_iff.mp H
      obtain ⟨t313, A170, H⟩ := H
      replace H : (if t313 = true then (some ((l0_6.length : Int) == 0)) else (some false)) = some r := H
      have A17 := Aside0.mk A170
      clear A170
      by_cases c18 : t313 = true
      ·subst c18
       have H1 : (some ((l0_6.length : Int) == 0)) = some r := by rw [if_pos rfl] at H; exact H
       clear H
       have H := H1
       clear H1
       obtain rfl := Option.some.inj H
       have hcz19_0 : wc.cell? ⟨gb311, 0, none⟩ = some (.int .i64 a0_0) := (blk_cell BK311.out 0).trans rfl
       have hcz19_1 : wc.cell? ⟨gb311, 1, none⟩ = some (.int .i64 a0_1) := (blk_cell BK311.out 1).trans rfl
       have hcz19_2 : wc.cell? ⟨gb311, 2, none⟩ = some (.int .i64 a0_2) := (blk_cell BK311.out 2).trans rfl
       have hcz19_3 : wc.cell? ⟨gb311, 3, none⟩ = some (.int .i64 a0_3) := (blk_cell BK311.out 3).trans rfl
       have hcz19_4 : wc.cell? ⟨gb311, 4, none⟩ = some (.int .i64 a0_4) := (blk_cell BK311.out 4).trans rfl
       have hcz19_5 : wc.cell? ⟨gb311, 5, none⟩ = some (.slice A0_5 l0_5.length c0_5) := (blk_cell BK311.out 5).trans rfl
       have hcz19_6 : wc.cell? ⟨gb311, 6, none⟩ = some (.slice A0_6 l0_6.length c0_6) := (blk_cell BK311.out 6).trans rfl
       have hfz19_0 := blk_frozen BK311.out 0
       have hfz19_1 := blk_frozen BK311.out 1
       have hfz19_2 := blk_frozen BK311.out 2
       have hfz19_3 := blk_frozen BK311.out 3
       have hfz19_4 := blk_frozen BK311.out 4
       have hfz19_5 := blk_frozen BK311.out 5
       have hfz19_6 := blk_frozen BK311.out 6
       go_wp2_with (first | (go_at_call 60; (with_reducible refine (frame_isDisplay.calls a0_2 true _ A17.out).mono ?_); rintro e w' ⟨rfl, ⟨nd, rfl⟩⟩))
       go_ret
       exact ⟨by first | rfl | (simp [errW_none, errW_some] <;> rfl) | (simp [*, errW_none, errW_some] <;> rfl), by repeat (first | (with_reducible first | exact HB.out | apply below_alloc | apply pw_below_drewN | apply below_drew1 | refine below_set ?_ GE311.out) | exact HB.out)⟩
      ·replace c18 := Bool.eq_false_iff.mpr c18
       subst c18
       have H1 : (some false) = some r := by rw [if_neg (show ¬ (false = true) by decide)] at H; exact H
       clear H
       have H := H1
       clear H1
       obtain rfl := Option.some.inj H
       have hcz20_0 : wc.cell? ⟨gb311, 0, none⟩ = some (.int .i64 a0_0) := (blk_cell BK311.out 0).trans rfl
       have hcz20_1 : wc.cell? ⟨gb311, 1, none⟩ = some (.int .i64 a0_1) := (blk_cell BK311.out 1).trans rfl
       have hcz20_2 : wc.cell? ⟨gb311, 2, none⟩ = some (.int .i64 a0_2) := (blk_cell BK311.out 2).trans rfl
       have hcz20_3 : wc.cell? ⟨gb311, 3, none⟩ = some (.int .i64 a0_3) := (blk_cell BK311.out 3).trans rfl
       have hcz20_4 : wc.cell? ⟨gb311, 4, none⟩ = some (.int .i64 a0_4) := (blk_cell BK311.out 4).trans rfl
       have hcz20_5 : wc.cell? ⟨gb311, 5, none⟩ = some (.slice A0_5 l0_5.length c0_5) := (blk_cell BK311.out 5).trans rfl
       have hcz20_6 : wc.cell? ⟨gb311, 6, none⟩ = some (.slice A0_6 l0_6.length c0_6) := (blk_cell BK311.out 6).trans rfl
       have hfz20_0 := blk_frozen BK311.out 0
       have hfz20_1 := blk_frozen BK311.out 1
       have hfz20_2 := blk_frozen BK311.out 2
       have hfz20_3 := blk_frozen BK311.out 3
       have hfz20_4 := blk_frozen BK311.out 4
       have hfz20_5 := blk_frozen BK311.out 5
       have hfz20_6 := blk_frozen BK311.out 6
       go_wp2_with (first | (go_at_call 60; (with_reducible refine (frame_isDisplay.calls a0_2 false _ A17.out).mono ?_); rintro e w' ⟨rfl, ⟨nd, rfl⟩⟩))
       go_ret
       exact ⟨by first | rfl | (simp [errW_none, errW_some] <;> rfl) | (simp [*, errW_none, errW_some] <;> rfl), by repeat (first | (with_reducible first | exact HB.out | apply below_alloc | apply pw_below_drewN | apply below_drew1 | refine below_set ?_ GE311.out) | exact HB.out)⟩
     ·rw [if_neg c16] at H
      have c16b0 : (a0_1 == 0) = false := beq_eq_false_iff_ne.mpr c16
      have c16b1 : (a0_1 != 0) = true := bne_iff_ne.mpr c16
      obtain rfl := Option.some.inj H
      have hcz21_0 : wc.cell? ⟨gb311, 0, none⟩ = some (.int .i64 a0_0) := (blk_cell BK311.out 0).trans rfl
      have hcz21_1 : wc.cell? ⟨gb311, 1, none⟩ = some (.int .i64 a0_1) := (blk_cell BK311.out 1).trans rfl
      have hcz21_2 : wc.cell? ⟨gb311, 2, none⟩ = some (.int .i64 a0_2) := (blk_cell BK311.out 2).trans rfl
      have hcz21_3 : wc.cell? ⟨gb311, 3, none⟩ = some (.int .i64 a0_3) := (blk_cell BK311.out 3).trans rfl
      have hcz21_4 : wc.cell? ⟨gb311, 4, none⟩ = some (.int .i64 a0_4) := (blk_cell BK311.out 4).trans rfl
      have hcz21_5 : wc.cell? ⟨gb311, 5, none⟩ = some (.slice A0_5 l0_5.length c0_5) := (blk_cell BK311.out 5).trans rfl
      have hcz21_6 : wc.cell? ⟨gb311, 6, none⟩ = some (.slice A0_6 l0_6.length c0_6) := (blk_cell BK311.out 6).trans rfl
      have hfz21_0 := blk_frozen BK311.out 0
      have hfz21_1 := blk_frozen BK311.out 1
      have hfz21_2 := blk_frozen BK311.out 2
      have hfz21_3 := blk_frozen BK311.out 3
      have hfz21_4 := blk_frozen BK311.out 4
      have hfz21_5 := blk_frozen BK311.out 5
      have hfz21_6 := blk_frozen BK311.out 6
      go_wp2
      go_ret
      exact ⟨by first | rfl | (simp [errW_none, errW_some] <;> rfl) | (simp [*, errW_none, errW_some] <;> rfl), by repeat (first | (with_reducible first | exact HB.out | apply below_alloc | apply pw_below_drewN | apply below_drew1 | refine below_set ?_ GE311.out) | exact HB.out)⟩
    ·rw [if_neg c15] at H
     have c15b0 : (a0_0 == 2) = false := beq_eq_false_iff_ne.mpr c15
     have c15b1 : (a0_0 != 2) = true := bne_iff_ne.mpr c15
     by_cases c22 : a0_0 = 3
     ·rw [if_pos c22] at H
      have c22b0 : (a0_0 == 3) = true := beq_iff_eq.mpr c22
      have c22b1 : (a0_0 != 3) = false := bne_eq_false_iff_eq.mpr c22
      clear c22
      by_cases c23 : a0_1 = 0
      ·rw [if_pos c23] at H
       have c23b0 : (a0_1 == 0) = true := beq_iff_eq.mpr c23
       have c23b1 : (a0_1 != 0) = false := bne_eq_false_iff_eq.mpr c23
       clear c23
       replace H := Option.bind_eq_some_iff.mp H
       obtain ⟨t314, A240, H⟩ := H
       replace H : (if t314 = true then (some ((l0_5.length : Int) == 0)) else (some false)) = some r := H
       have A24 := Aside0.mk A240
       clear A240
       by_cases c25 : t314 = true
       ·subst c25
        have H1 : (some ((l0_5.length : Int) == 0)) = some r := by rw [if_pos rfl] at H; exact H
        clear H
        have H := H1
        clear H1
        obtain rfl := Option.some.inj H
        have hcz26_0 : wc.cell? ⟨gb311, 0, none⟩ = some (.int .i64 a0_0) := (blk_cell BK311.out 0).trans rfl
        have hcz26_1 : wc.cell? ⟨gb311, 1, none⟩ = some (.int .i64 a0_1) := (blk_cell BK311.out 1).trans rfl
        have hcz26_2 : wc.cell? ⟨gb311, 2, none⟩ = some (.int .i64 a0_2) := (blk_cell BK311.out 2).trans rfl
        have hcz26_3 : wc.cell? ⟨gb311, 3, none⟩ = some (.int .i64 a0_3) := (blk_cell BK311.out 3).trans rfl
        have hcz26_4 : wc.cell? ⟨gb311, 4, none⟩ = some (.int .i64 a0_4) := (blk_cell BK311.out 4).trans rfl
        have hcz26_5 : wc.cell? ⟨gb311, 5, none⟩ = some (.slice A0_5 l0_5.length c0_5) := (blk_cell BK311.out 5).trans rfl
        have hcz26_6 : wc.cell? ⟨gb311, 6, none⟩ = some (.slice A0_6 l0_6.length c0_6) := (blk_cell BK311.out 6).trans rfl
        have hfz26_0 := blk_frozen BK311.out 0
        have hfz26_1 := blk_frozen BK311.out 1
        have hfz26_2 := blk_frozen BK311.out 2
        have hfz26_3 := blk_frozen BK311.out 3
        have hfz26_4 := blk_frozen BK311.out 4
        have hfz26_5 := blk_frozen BK311.out 5
        have hfz26_6 := blk_frozen BK311.out 6
        go_wp2_with (first | (go_at_call 60; (with_reducible refine (frame_isDisplay.calls a0_2 true _ A24.out).mono ?_); rintro e w' ⟨rfl, ⟨nd, rfl⟩⟩))
        go_ret
        exact ⟨by first | rfl | (simp [errW_none, errW_some] <;> rfl) | (simp [*, errW_none, errW_some] <;> rfl), by repeat (first | (with_reducible first | exact HB.out | apply below_alloc | apply pw_below_drewN | apply below_drew1 | refine below_set ?_ GE311.out) | exact HB.out)⟩
       ·replace c25 := Bool.eq_false_iff.mpr c25
        subst c25
        have H1 : (some false) = some r := by rw [if_neg (show ¬ (false = true) by decide)] at H; exact H
        clear H
        have H := H1
        clear H1
        obtain rfl := Option.some.inj H
        have hcz27_0 : wc.cell? ⟨gb311, 0, none⟩ = some (.int .i64 a0_0) := (blk_cell BK311.out 0).trans rfl
        have hcz27_1 : wc.cell? ⟨gb311, 1, none⟩ = some (.int .i64 a0_1) := (blk_cell BK311.out 1).trans rfl
        have hcz27_2 : wc.cell? ⟨gb311, 2, none⟩ = some (.int .i64 a0_2) := (blk_cell BK311.out 2).trans rfl
        have hcz27_3 : wc.cell? ⟨gb311, 3, none⟩ = some (.int .i64 a0_3) := (blk_cell BK311.out 3).trans rfl
        have hcz27_4 : wc.cell? ⟨gb311, 4, none⟩ = some (.int .i64 a0_4) := (blk_cell BK311.out 4).trans rfl
        have hcz27_5 : wc.cell? ⟨gb311, 5, none⟩ = some (.slice A0_5 l0_5.length c0_5) := (blk_cell BK311.out 5).trans rfl
        have hcz27_6 : wc.cell? ⟨gb311, 6, none⟩ = some (.slice A0_6 l0_6.length c0_6) := (blk_cell BK311.out 6).trans rfl
        have hfz27_0 := blk_frozen BK311.out 0
        have hfz27_1 := blk_frozen BK311.out 1
        have hfz27_2 := blk_frozen BK311.out 2
        have hfz27_3 := blk_frozen BK311.out 3
        have hfz27_4 := blk_frozen BK311.out 4
        have hfz27_5 := blk_frozen BK311.out 5
        have hfz27_6 := blk_frozen BK311.out 6
        go_wp2_with (first | (go_at_call 60; (with_reducible refine (frame_isDisplay.calls a0_2 false _ A24.out).mono ?_); rintro e w' ⟨rfl, ⟨nd, rfl⟩⟩))
        go_ret
        exact ⟨by first | rfl | (simp [errW_none, errW_some] <;> rfl) | (simp [*, errW_none, errW_some] <;> rfl), by repeat (first | (with_reducible first | exact HB.out | apply below_alloc | apply pw_below_drewN | apply below_drew1 | refine below_set ?_ GE311.out) | exact HB.out)⟩
      ·rw [if_neg c23] at H
       have c23b0 : (a0_1 == 0) = false := beq_eq_false_iff_ne.mpr c23
       have c23b1 : (a0_1 != 0) = true := bne_iff_ne.mpr c23
       obtain rfl := Option.some.inj H
       have hcz28_0 : wc.cell? ⟨gb311, 0, none⟩ = some (.int .i64 a0_0) := (blk_cell BK311.out 0).trans rfl
       have hcz28_1 : wc.cell? ⟨gb311, 1, none⟩ = some (.int .i64 a0_1) := (blk_cell BK311.out 1).trans rfl
       have hcz28_2 : wc.cell? ⟨gb311, 2, none⟩ = some (.int .i64 a0_2) := (blk_cell BK311.out 2).trans rfl
       have hcz28_3 : wc.cell? ⟨gb311, 3, none⟩ = some (.int .i64 a0_3) := (blk_cell BK311.out 3).trans rfl
       have hcz28_4 : wc.cell? ⟨gb311, 4, none⟩ = some (.int .i64 a0_4) := (blk_cell BK311.out 4).trans rfl
       have hcz28_5 : wc.cell? ⟨gb311, 5, none⟩ = some (.slice A0_5 l0_5.length c0_5) := (blk_cell BK311.out 5).trans rfl
       have hcz28_6 : wc.cell? ⟨gb311, 6, none⟩ = some (.slice A0_6 l0_6.length c0_6) := (blk_cell BK311.out 6).trans rfl
       have hfz28_0 := blk_frozen BK311.out 0
       have hfz28_1 := blk_frozen BK311.out 1
       have hfz28_2 := blk_frozen BK311.out 2
       have hfz28_3 := blk_frozen BK311.out 3
       have hfz28_4 := blk_frozen BK311.out 4
       have hfz28_5 := blk_frozen BK311.out 5
       have hfz28_6 := blk_frozen BK311.out 6
       go_wp2
       go_ret
       exact ⟨by first | rfl | (simp [errW_none, errW_some] <;> rfl) | (simp [*, errW_none, errW_some] <;> rfl), by repeat (first | (with_reducible first | exact HB.out | apply below_alloc | apply pw_below_drewN | apply below_drew1 | refine below_set ?_ GE311.out) | exact HB.out)⟩
     ·rw [if_neg c22] at H
      have c22b0 : (a0_0 == 3) = false := beq_eq_false_iff_ne.mpr c22
      have c22b1 : (a0_0 != 3) = true := bne_iff_ne.mpr c22
      by_cases c29 : a0_0 = 4
      ·rw [if_pos c29] at H
       have c29b0 : (a0_0 == 4) = true := beq_iff_eq.mpr c29
       have c29b1 : (a0_0 != 4) = false := bne_eq_false_iff_eq.mpr c29
       clear c29
       by_cases c30 : a0_1 = 0
       ·rw [if_pos c30] at H
        have c30b0 : (a0_1 == 0) = true := beq_iff_eq.mpr c30
        have c30b1 : (a0_1 != 0) = false := bne_eq_false_iff_eq.mpr c30
        clear c30
        replace H := Option.bind_eq_some_iff.mp H
        obtain ⟨t315, A310, H⟩ := H
        replace H : (if t315 = true then (if (l0_5.length : Int) = 0 then (some ((l0_6.length : Int) == 0)) else (some false)) else (some false)) = some r := H
        have A31 := Aside0.mk A310
        clear A310
        by_cases c32 : t315 = true
        ·subst c32
         have H1 : (if (l0_5.length : Int) = 0 then (some ((l0_6.length : Int) == 0)) else (some false)) = some r := by rw [if_pos rfl] at H; exact H
         clear H
         have H := H1
         clear H1
         by_cases c33 : (l0_5.length : Int) = 0
         ·rw [if_pos c33] at H
          have c33b0 : ((l0_5.length : Int) == 0) = true := beq_iff_eq.mpr c33
          have c33b1 : ((l0_5.length : Int) != 0) = false := bne_eq_false_iff_eq.mpr c33
          clear c33
          obtain rfl := Option.some.inj H
          have hcz34_0 : wc.cell? ⟨gb311, 0, none⟩ = some (.int .i64 a0_0) := (blk_cell BK311.out 0).trans rfl
          have hcz34_1 : wc.cell? ⟨gb311, 1, none⟩ = some (.int .i64 a0_1) := (blk_cell BK311.out 1).trans rfl
          have hcz34_2 : wc.cell? ⟨gb311, 2, none⟩ = some (.int .i64 a0_2) := (blk_cell BK311.out 2).trans rfl
          have hcz34_3 : wc.cell? ⟨gb311, 3, none⟩ = some (.int .i64 a0_3) := (blk_cell BK311.out 3).trans rfl
          have hcz34_4 : wc.cell? ⟨gb311, 4, none⟩ = some (.int .i64 a0_4) := (blk_cell BK311.out 4).trans rfl
          have hcz34_5 : wc.cell? ⟨gb311, 5, none⟩ = some (.slice A0_5 l0_5.length c0_5) := (blk_cell BK311.out 5).trans rfl
          have hcz34_6 : wc.cell? ⟨gb311, 6, none⟩ = some (.slice A0_6 l0_6.length c0_6) := (blk_cell BK311.out 6).trans rfl
          have hfz34_0 := blk_frozen BK311.out 0
          have hfz34_1 := blk_frozen BK311.out 1
          have hfz34_2 := blk_frozen BK311.out 2
          have hfz34_3 := blk_frozen BK311.out 3
          have hfz34_4 := blk_frozen BK311.out 4
          have hfz34_5 := blk_frozen BK311.out 5
          have hfz34_6 := blk_frozen BK311.out 6
          go_wp2_with (first | (go_at_call 60; (with_reducible refine (frame_isDisplay.calls a0_2 true _ A31.out).mono ?_); rintro e w' ⟨rfl, ⟨nd, rfl⟩⟩))
          go_ret
          exact ⟨by first | rfl | (simp [errW_none, errW_some] <;> rfl) | (simp [*, errW_none, errW_some] <;> rfl), by repeat (first | (with_reducible first | exact HB.out | apply below_alloc | apply pw_below_drewN | apply below_drew1 | refine below_set ?_ GE311.out) | exact HB.out)⟩
         ·rw [if_neg c33] at H
          have c33b0 : ((l0_5.length : Int) == 0) = false := beq_eq_false_iff_ne.mpr c33
          have c33b1 : ((l0_5.length : Int) != 0) = true := bne_iff_ne.mpr c33
          have c33b2 : ¬ (l0_5 = []) := fun h_ => c33 (by rw [h_]; rfl)
          obtain rfl := Option.some.inj H
          have hcz35_0 : wc.cell? ⟨gb311, 0, none⟩ = some (.int .i64 a0_0) := (blk_cell BK311.out 0).trans rfl
          have hcz35_1 : wc.cell? ⟨gb311, 1, none⟩ = some (.int .i64 a0_1) := (blk_cell BK311.out 1).trans rfl
          have hcz35_2 : wc.cell? ⟨gb311, 2, none⟩ = some (.int .i64 a0_2) := (blk_cell BK311.out 2).trans rfl
          have hcz35_3 : wc.cell? ⟨gb311, 3, none⟩ = some (.int .i64 a0_3) := (blk_cell BK311.out 3).trans rfl
          have hcz35_4 : wc.cell? ⟨gb311, 4, none⟩ = some (.int .i64 a0_4) := (blk_cell BK311.out 4).trans rfl
          have hcz35_5 : wc.cell? ⟨gb311, 5, none⟩ = some (.slice A0_5 l0_5.length c0_5) := (blk_cell BK311.out 5).trans rfl
          have hcz35_6 : wc.cell? ⟨gb311, 6, none⟩ = some (.slice A0_6 l0_6.length c0_6) := (blk_cell BK311.out 6).trans rfl
          have hfz35_0 := blk_frozen BK311.out 0
          have hfz35_1 := blk_frozen BK311.out 1
          have hfz35_2 := blk_frozen BK311.out 2
          have hfz35_3 := blk_frozen BK311.out 3
          have hfz35_4 := blk_frozen BK311.out 4
          have hfz35_5 := blk_frozen BK311.out 5
          have hfz35_6 := blk_frozen BK311.out 6
          go_wp2_with (first | (go_at_call 60; (with_reducible refine (frame_isDisplay.calls a0_2 true _ A31.out).mono ?_); rintro e w' ⟨rfl, ⟨nd, rfl⟩⟩))
          go_ret
          exact ⟨by first | rfl | (simp [errW_none, errW_some] <;> rfl) | (simp [*, errW_none, errW_some] <;> rfl), by repeat (first | (with_reducible first | exact HB.out | apply below_alloc | apply pw_below_drewN | apply below_drew1 | refine below_set ?_ GE311.out) | exact HB.out)⟩
        ·replace c32 := Bool.eq_false_iff.mpr c32
         subst c32
         have H1 : (some false) = some r := by rw [if_neg (show ¬ (false = true) by decide)] at H; exact H
         clear H
         have H := H1
         clear H1
         obtain rfl := Option.some.inj H
         have hcz36_0 : wc.cell? ⟨gb311, 0, none⟩ = some (.int .i64 a0_0) := (blk_cell BK311.out 0).trans rfl
         have hcz36_1 : wc.cell? ⟨gb311, 1, none⟩ = some (.int .i64 a0_1) := (blk_cell BK311.out 1).trans rfl
         have hcz36_2 : wc.cell? ⟨gb311, 2, none⟩ = some (.int .i64 a0_2) := (blk_cell BK311.out 2).trans rfl
         have hcz36_3 : wc.cell? ⟨gb311, 3, none⟩ = some (.int .i64 a0_3) := (blk_cell BK311.out 3).trans rfl
         have hcz36_4 : wc.cell? ⟨gb311, 4, none⟩ = some (.int .i64 a0_4) := (blk_cell BK311.out 4).trans rfl
         have hcz36_5 : wc.cell? ⟨gb311, 5, none⟩ = some (.slice A0_5 l0_5.length c0_5) := (blk_cell BK311.out 5).trans rfl
         have hcz36_6 : wc.cell? ⟨gb311, 6, none⟩ = some (.slice A0_6 l0_6.length c0_6) := (blk_cell BK311.out 6).trans rfl
         have hfz36_0 := blk_frozen BK311.out 0
         have hfz36_1 := blk_frozen BK311.out 1
         have hfz36_2 := blk_frozen BK311.out 2
         have hfz36_3 := blk_frozen BK311.out 3
         have hfz36_4 := blk_frozen BK311.out 4
         have hfz36_5 := blk_frozen BK311.out 5
         have hfz36_6 := blk_frozen BK311.out 6
         go_wp2_with (first | (go_at_call 60; (with_reducible refine (frame_isDisplay.calls a0_2 false _ A31.out).mono ?_); rintro e w' ⟨rfl, ⟨nd, rfl⟩⟩))
         go_ret
         exact ⟨by first | rfl | (simp [errW_none, errW_some] <;> rfl) | (simp [*, errW_none, errW_some] <;> rfl), by repeat (first | (with_reducible first | exact HB.out | apply below_alloc | apply pw_below_drewN | apply below_drew1 | refine below_set ?_ GE311.out) | exact HB.out)⟩
       ·rw [if_neg c30] at H
        have c30b0 : (a0_1 == 0) = false := beq_eq_false_iff_ne.mpr c30
        have c30b1 : (a0_1 != 0) = true := bne_iff_ne.mpr c30
        obtain rfl := Option.some.inj H
        have hcz37_0 : wc.cell? ⟨gb311, 0, none⟩ = some (.int .i64 a0_0) := (blk_cell BK311.out 0).trans rfl
        have hcz37_1 : wc.cell? ⟨gb311, 1, none⟩ = some (.int .i64 a0_1) := (blk_cell BK311.out 1).trans rfl
        have hcz37_2 : wc.cell? ⟨gb311, 2, none⟩ = some (.int .i64 a0_2) := (blk_cell BK311.out 2).trans rfl
        have hcz37_3 : wc.cell? ⟨gb311, 3, none⟩ = some (.int .i64 a0_3) := (blk_cell BK311.out 3).trans rfl
        have hcz37_4 : wc.cell? ⟨gb311, 4, none⟩ = some (.int .i64 a0_4) := (blk_cell BK311.out 4).trans rfl
        have hcz37_5 : wc.cell? ⟨gb311, 5, none⟩ = some (.slice A0_5 l0_5.length c0_5) := (blk_cell BK311.out 5).trans rfl
        have hcz37_6 : wc.cell? ⟨gb311, 6, none⟩ = some (.slice A0_6 l0_6.length c0_6) := (blk_cell BK311.out 6).trans rfl
        have hfz37_0 := blk_frozen BK311.out 0
        have hfz37_1 := blk_frozen BK311.out 1
        have hfz37_2 := blk_frozen BK311.out 2
        have hfz37_3 := blk_frozen BK311.out 3
        have hfz37_4 := blk_frozen BK311.out 4
        have hfz37_5 := blk_frozen BK311.out 5
        have hfz37_6 := blk_frozen BK311.out 6
        go_wp2
        go_ret
        exact ⟨by first | rfl | (simp [errW_none, errW_some] <;> rfl) | (simp [*, errW_none, errW_some] <;> rfl), by repeat (first | (with_reducible first | exact HB.out | apply below_alloc | apply pw_below_drewN | apply below_drew1 | refine below_set ?_ GE311.out) | exact HB.out)⟩
      ·rw [if_neg c29] at H
       have c29b0 : (a0_0 == 4) = false := beq_eq_false_iff_ne.mpr c29
       have c29b1 : (a0_0 != 4) = true := bne_iff_ne.mpr c29
       obtain rfl := Option.some.inj H
       go_wp2
       go_ret
       exact ⟨by first | rfl | (simp [errW_none, errW_some] <;> rfl) | (simp [*, errW_none, errW_some] <;> rfl), by repeat (first | (with_reducible first | exact HB.out | apply below_alloc | apply pw_below_drewN | apply below_drew1 | refine below_set ?_ GE311.out) | exact HB.out)⟩
end Go.Proofs.YtfpopmojlmpopaaDoor.G

end
section
namespace Go.Proofs.YtfpopmojlmpopaaDoor.G
open Go.RowKit Go.Proofs.YtfpopmojlmpopaaDoorW.PrintWords Go.Proofs.YtfpopmojlmpopaaDoorW.PrintLast Go.Proofs.YtfpopmojlmpopaaDoorW.PrintMore
attribute [local go_sem] max2_int min2_int max_two min_two max_three min_three max_four min_four
set_option linter.unusedVariables false
set_option linter.unusedSimpArgs false
def frame_Check.j0 : Nat → Bool → Int → Int → Int → Int → Int → List ByteArray → List (S52) → Option (Int)
 | 0, _, _, _, _, _, _, _, _ => none
 | k + 1, x34, x317000, x317001, x317002, x317003, x317004, x317005, x317006 => if x34 = true then (some 5) else ((frame_lineError.f k x317005).bind fun t318 => (if t318 = 0 then ((frame_possible.f k x317006).bind fun t319 => (if t319 = true then (some 0) else (some 1))) else (some t318)))
def frame_Check.f (k : Nat) (a0_0 : Int) (a0_1 : Int) (a0_2 : Int) (a0_3 : Int) (a0_4 : Int) (l0_5 : List ByteArray) (l0_6 : List (S52)) : Option (Int) := (frame_routed.f k a0_0 a0_1 a0_2 a0_3 a0_4 l0_5 l0_6).bind fun t317 => (if t317 = true then (if a0_3 < 0 then (frame_Check.j0 k true a0_0 a0_1 a0_2 a0_3 a0_4 l0_5 l0_6) else (if a0_3 > 1000000000 then (frame_Check.j0 k true a0_0 a0_1 a0_2 a0_3 a0_4 l0_5 l0_6) else (if a0_4 < 0 then (frame_Check.j0 k true a0_0 a0_1 a0_2 a0_3 a0_4 l0_5 l0_6) else (if a0_4 > 1000000000 then (frame_Check.j0 k true a0_0 a0_1 a0_2 a0_3 a0_4 l0_5 l0_6) else (if a0_0 = 3 then (frame_Check.j0 k (a0_4 == 0) a0_0 a0_1 a0_2 a0_3 a0_4 l0_5 l0_6) else (frame_Check.j0 k false a0_0 a0_1 a0_2 a0_3 a0_4 l0_5 l0_6)))))) else (some 1))
set_option maxHeartbeats 8000000 in
set_option maxRecDepth 100000 in
theorem frame_Check.calls (k : Nat) (a0_0 : Int) (a0_1 : Int) (a0_2 : Int) (a0_3 : Int) (a0_4 : Int) (A0_5 : Option Addr) (c0_5 : Nat) (l0_5 : List ByteArray) (A0_6 : Option Addr) (c0_6 : Nat) (l0_6 : List (S52)) (r : Int) (w : World) (hr0_5 : Kd.C Kd.string w A0_5 l0_5.length l0_5) (hc0_5 : l0_5.length ≤ c0_5) (hr0_6 : Kd.C k52 w A0_6 l0_6.length l0_6) (hc0_6 : l0_6.length ≤ c0_6) (h : frame_Check.f k a0_0 a0_1 a0_2 a0_3 a0_4 l0_5 l0_6 = some r) :
  Calls Tryd.prog 28 #[.agg #[.int .i64 a0_0, .int .i64 a0_1, .int .i64 a0_2, .int .i64 a0_3, .int .i64 a0_4, .slice A0_5 l0_5.length c0_5, .slice A0_6 l0_6.length c0_6]] w fun e w' => e = .returned (.int .i64 r) ∧ Below w.heap.size w w' := by
 have hu31 := Tryd.underlying31
 have HR0_5 := Aside0.mk hr0_5
 have HC0_5 := Aside0.mk hc0_5
 clear hr0_5 hc0_5
 have HR0_6 := Aside0.mk hr0_6
 have HC0_6 := Aside0.mk hc0_6
 clear hr0_6 hc0_6
 have HB := Aside0.mk (Below.refl w.heap.size w)
 have H : ((frame_routed.f k a0_0 a0_1 a0_2 a0_3 a0_4 l0_5 l0_6).bind fun t317 => (if t317 = true then (if a0_3 < 0 then (frame_Check.j0 k true a0_0 a0_1 a0_2 a0_3 a0_4 l0_5 l0_6) else (if a0_3 > 1000000000 then (frame_Check.j0 k true a0_0 a0_1 a0_2 a0_3 a0_4 l0_5 l0_6) else (if a0_4 < 0 then (frame_Check.j0 k true a0_0 a0_1 a0_2 a0_3 a0_4 l0_5 l0_6) else (if a0_4 > 1000000000 then (frame_Check.j0 k true a0_0 a0_1 a0_2 a0_3 a0_4 l0_5 l0_6) else (if a0_0 = 3 then (frame_Check.j0 k (a0_4 == 0) a0_0 a0_1 a0_2 a0_3 a0_4 l0_5 l0_6) else (frame_Check.j0 k false a0_0 a0_1 a0_2 a0_3 a0_4 l0_5 l0_6)))))) else (some 1))) = some r := h
 clear h
 replace H := Option.bind_eq_some_iff.mp H
 obtain ⟨t317, A20, H⟩ := H
 replace H : (if t317 = true then (if a0_3 < 0 then (frame_Check.j0 k true a0_0 a0_1 a0_2 a0_3 a0_4 l0_5 l0_6) else (if a0_3 > 1000000000 then (frame_Check.j0 k true a0_0 a0_1 a0_2 a0_3 a0_4 l0_5 l0_6) else (if a0_4 < 0 then (frame_Check.j0 k true a0_0 a0_1 a0_2 a0_3 a0_4 l0_5 l0_6) else (if a0_4 > 1000000000 then (frame_Check.j0 k true a0_0 a0_1 a0_2 a0_3 a0_4 l0_5 l0_6) else (if a0_0 = 3 then (frame_Check.j0 k (a0_4 == 0) a0_0 a0_1 a0_2 a0_3 a0_4 l0_5 l0_6) else (frame_Check.j0 k false a0_0 a0_1 a0_2 a0_3 a0_4 l0_5 l0_6)))))) else (some 1)) = some r := H
 have A2 := Aside0.mk A20
 clear A20
 by_cases c3 : t317 = true
 ·subst c3
  have H1 : (if a0_3 < 0 then (frame_Check.j0 k true a0_0 a0_1 a0_2 a0_3 a0_4 l0_5 l0_6) else (if a0_3 > 1000000000 then (frame_Check.j0 k true a0_0 a0_1 a0_2 a0_3 a0_4 l0_5 l0_6) else (if a0_4 < 0 then (frame_Check.j0 k true a0_0 a0_1 a0_2 a0_3 a0_4 l0_5 l0_6) else (if a0_4 > 1000000000 then (frame_Check.j0 k true a0_0 a0_1 a0_2 a0_3 a0_4 l0_5 l0_6) else (if a0_0 = 3 then (frame_Check.j0 k (a0_4 == 0) a0_0 a0_1 a0_2 a0_3 a0_4 l0_5 l0_6) else (frame_Check.j0 k false a0_0 a0_1 a0_2 a0_3 a0_4 l0_5 l0_6)))))) = some r := by rw [if_pos rfl] at H; exact H
  clear H
  have H := H1
  clear H1
  have HC4 := Aside0.mk H
  clear H
  go_enter Tryd.func28, Tryd.ntmps28
  go_upto_region 3 with (first | ((with_reducible refine gate_dst (N := 1) rfl ?_); refine box_event ?hg (N := 1) ?hd (cs := #[.int .i64 a0_0, .int .i64 a0_1, .int .i64 a0_2, .int .i64 a0_3, .int .i64 a0_4, .slice A0_5 l0_5.length c0_5, .slice A0_6 l0_6.length c0_6]) (t := 31) ?hr ?_; (case hd => rfl); (case hg => rfl); (case hr => first | (go_simp; done) | (go_simp; rfl)); intro gb316 hg w5 hbox hb; have n0_ := Aside0.mk (below_step (by repeat (first | (with_reducible first | exact HB.out | apply below_alloc | apply pw_below_drewN | apply below_drew1) | exact HB.out)) hb); have n1_ := Aside0.mk (hbox); have n2_ := Aside0.mk ((by rw [hg]; exact (below_size (by repeat (first | (with_reducible first | exact HB.out | apply below_alloc | apply pw_below_drewN | apply below_drew1) | exact HB.out))) : w.heap.size ≤ gb316)); have n3_ := Aside0.mk ((by rw [hg]; exact (below_size (by repeat (first | (with_reducible first | exact HB.out | apply below_alloc | apply pw_below_drewN | apply below_drew1) | exact HB.out))) : w.heap.size ≤ gb316)); clear HB; have HB := n0_; have BK316 := n1_; have GW316 := n2_; have GE316 := n3_; clear n0_ n1_ n2_ n3_; clear hb hbox hg; have hcz6_0 : w5.cell? ⟨gb316, 0, none⟩ = some (.int .i64 a0_0) := (blk_cell BK316.out 0).trans rfl; have hcz6_1 : w5.cell? ⟨gb316, 1, none⟩ = some (.int .i64 a0_1) := (blk_cell BK316.out 1).trans rfl; have hcz6_2 : w5.cell? ⟨gb316, 2, none⟩ = some (.int .i64 a0_2) := (blk_cell BK316.out 2).trans rfl; have hcz6_3 : w5.cell? ⟨gb316, 3, none⟩ = some (.int .i64 a0_3) := (blk_cell BK316.out 3).trans rfl; have hcz6_4 : w5.cell? ⟨gb316, 4, none⟩ = some (.int .i64 a0_4) := (blk_cell BK316.out 4).trans rfl; have hcz6_5 : w5.cell? ⟨gb316, 5, none⟩ = some (.slice A0_5 l0_5.length c0_5) := (blk_cell BK316.out 5).trans rfl; have hcz6_6 : w5.cell? ⟨gb316, 6, none⟩ = some (.slice A0_6 l0_6.length c0_6) := (blk_cell BK316.out 6).trans rfl; have hfz6_0 := blk_frozen BK316.out 0; have hfz6_1 := blk_frozen BK316.out 1; have hfz6_2 := blk_frozen BK316.out 2; have hfz6_3 := blk_frozen BK316.out 3; have hfz6_4 := blk_frozen BK316.out 4; have hfz6_5 := blk_frozen BK316.out 5; have hfz6_6 := blk_frozen BK316.out 6) | ((with_reducible refine gate_callee (f := 52) rfl ?_); refine goesL_ (some 5) rfl rfl Tryd.func52 (by kernel_rfl) rfl #[.agg #[.int .i64 a0_0, .int .i64 a0_1, .int .i64 a0_2, .int .i64 a0_3, .int .i64 a0_4, .slice A0_5 l0_5.length c0_5, .slice A0_6 l0_6.length c0_6]] rfl (by (try simp only [List.map_toArray, List.map_cons, List.map_nil]); first | done | rfl | (simp only [List.length_drop, List.length_take]; rfl)) ?_; (with_reducible refine (frame_routed.calls k a0_0 a0_1 a0_2 a0_3 a0_4 _ _ l0_5 _ _ l0_6 true _ ?side1 ?side2 ?side3 ?side4 A2.out).mono ?_); (case side1 => repeat (first | exact (Kd.C_below HR0_5.out HB.out) | (with_reducible refine Kd.C_alloc ?_ _) | (with_reducible refine Kd.C_drewN ?_ _) | (with_reducible refine Kd.C_drew ?_))); (case side2 => exact HC0_5.out); (case side3 => repeat (first | exact (Kd.C_below HR0_6.out HB.out) | (with_reducible refine Kd.C_alloc ?_ _) | (with_reducible refine Kd.C_drewN ?_ _) | (with_reducible refine Kd.C_drew ?_))); (case side4 => exact HC0_6.out); rintro e w7 ⟨rfl, hb⟩; refine ⟨_, rfl, ?_⟩; have n0_ := Aside0.mk (blk_below (g := gb316) (o := .cells #[.int .i64 a0_0, .int .i64 a0_1, .int .i64 a0_2, .int .i64 a0_3, .int .i64 a0_4, .slice A0_5 l0_5.length c0_5, .slice A0_6 l0_6.length c0_6] 31 (0, 0)) (by (with_reducible repeat (first | refine blk_drewN ?_ _ | refine blk_drew ?_ | refine blk_alloc ?_ _)); exact BK316.out) hb); have n1_ := Aside0.mk (below_step (by repeat (first | (with_reducible first | exact HB.out | apply below_alloc | apply pw_below_drewN | apply below_drew1 | refine below_set ?_ GE316.out) | exact HB.out)) hb); clear BK316; clear HB; have BK316 := n0_; have HB := n1_; clear n0_ n1_; (try clear hb); (try clear hb2); (try clear hk); (try clear hi)))
  (try simp only [Act.put, sA_, sB_, sC_])
  go_cut [34] (fun v34 wc => ∃ (kq : Nat) (x34_3 : Bool), v34 = .bool x34_3 ∧ Aside0 (frame_Check.j0 kq x34_3 a0_0 a0_1 a0_2 a0_3 a0_4 l0_5 l0_6 = some r) ∧ Aside0 (kq ≤ k) ∧ Aside0 (wc.heap[gb316]? = some (.cells #[.int .i64 a0_0, .int .i64 a0_1, .int .i64 a0_2, .int .i64 a0_3, .int .i64 a0_4, (.slice A0_5 l0_5.length c0_5), (.slice A0_6 l0_6.length c0_6)] 31 (0, 0))) ∧ Aside0 (Below w.heap.size w wc))
  case first =>
   have H := HC4.out
   clear HC4
   by_cases c8 : a0_3 < 0
   ·rw [if_pos c8] at H
    have c8b0 : decide (a0_3 < 0) = true := decide_eq_true c8
    clear c8
    (first | rw [c8b0] | (simp only [i64_w, i32_w]; rw [c8b0]) | skip)
    have H' := Aside0.mk H
    clear H
    have hcz9_0 : w7.cell? ⟨gb316, 0, none⟩ = some (.int .i64 a0_0) := (blk_cell BK316.out 0).trans rfl
    have hcz9_1 : w7.cell? ⟨gb316, 1, none⟩ = some (.int .i64 a0_1) := (blk_cell BK316.out 1).trans rfl
    have hcz9_2 : w7.cell? ⟨gb316, 2, none⟩ = some (.int .i64 a0_2) := (blk_cell BK316.out 2).trans rfl
    have hcz9_3 : w7.cell? ⟨gb316, 3, none⟩ = some (.int .i64 a0_3) := (blk_cell BK316.out 3).trans rfl
    have hcz9_4 : w7.cell? ⟨gb316, 4, none⟩ = some (.int .i64 a0_4) := (blk_cell BK316.out 4).trans rfl
    have hcz9_5 : w7.cell? ⟨gb316, 5, none⟩ = some (.slice A0_5 l0_5.length c0_5) := (blk_cell BK316.out 5).trans rfl
    have hcz9_6 : w7.cell? ⟨gb316, 6, none⟩ = some (.slice A0_6 l0_6.length c0_6) := (blk_cell BK316.out 6).trans rfl
    have hfz9_0 := blk_frozen BK316.out 0
    have hfz9_1 := blk_frozen BK316.out 1
    have hfz9_2 := blk_frozen BK316.out 2
    have hfz9_3 := blk_frozen BK316.out 3
    have hfz9_4 := blk_frozen BK316.out 4
    have hfz9_5 := blk_frozen BK316.out 5
    have hfz9_6 := blk_frozen BK316.out 6
    go_wp2
    go_meet
    case rel => exact ⟨_, (true), (by first | rfl | (simp; done) | (simp [*]; done)), H', ⟨by first | omega | exact Nat.le_refl _⟩, ⟨by (with_reducible repeat (first | refine blk_drewN ?_ _ | refine blk_drew ?_ | refine blk_alloc ?_ _)); exact BK316.out⟩, ⟨by repeat (first | (with_reducible first | exact HB.out | apply below_alloc | apply pw_below_drewN | apply below_drew1 | refine below_set ?_ GE316.out) | exact HB.out)⟩⟩
   ·rw [if_neg c8] at H
    have c8b0 : decide (a0_3 < 0) = false := decide_eq_false c8
    clear c8
    (first | rw [c8b0] | (simp only [i64_w, i32_w]; rw [c8b0]) | skip)
    by_cases c10 : a0_3 > 1000000000
    ·rw [if_pos c10] at H
     have c10b0 : decide (1000000000 < a0_3) = true := decide_eq_true c10
     clear c10
     have H' := Aside0.mk H
     clear H
     have hcz11_0 : w7.cell? ⟨gb316, 0, none⟩ = some (.int .i64 a0_0) := (blk_cell BK316.out 0).trans rfl
     have hcz11_1 : w7.cell? ⟨gb316, 1, none⟩ = some (.int .i64 a0_1) := (blk_cell BK316.out 1).trans rfl
     have hcz11_2 : w7.cell? ⟨gb316, 2, none⟩ = some (.int .i64 a0_2) := (blk_cell BK316.out 2).trans rfl
     have hcz11_3 : w7.cell? ⟨gb316, 3, none⟩ = some (.int .i64 a0_3) := (blk_cell BK316.out 3).trans rfl
     have hcz11_4 : w7.cell? ⟨gb316, 4, none⟩ = some (.int .i64 a0_4) := (blk_cell BK316.out 4).trans rfl
     have hcz11_5 : w7.cell? ⟨gb316, 5, none⟩ = some (.slice A0_5 l0_5.length c0_5) := (blk_cell BK316.out 5).trans rfl
     have hcz11_6 : w7.cell? ⟨gb316, 6, none⟩ = some (.slice A0_6 l0_6.length c0_6) := (blk_cell BK316.out 6).trans rfl
     have hfz11_0 := blk_frozen BK316.out 0
     have hfz11_1 := blk_frozen BK316.out 1
     have hfz11_2 := blk_frozen BK316.out 2
     have hfz11_3 := blk_frozen BK316.out 3
     have hfz11_4 := blk_frozen BK316.out 4
     have hfz11_5 := blk_frozen BK316.out 5
     have hfz11_6 := blk_frozen BK316.out 6
     go_wp2
     go_meet
     case rel => exact ⟨_, (true), (by first | rfl | (simp; done) | (simp [*]; done)), H', ⟨by first | omega | exact Nat.le_refl _⟩, ⟨by (with_reducible repeat (first | refine blk_drewN ?_ _ | refine blk_drew ?_ | refine blk_alloc ?_ _)); exact BK316.out⟩, ⟨by repeat (first | (with_reducible first | exact HB.out | apply below_alloc | apply pw_below_drewN | apply below_drew1 | refine below_set ?_ GE316.out) | exact HB.out)⟩⟩
    ·rw [if_neg c10] at H
     have c10b0 : decide (1000000000 < a0_3) = false := decide_eq_false c10
     clear c10
     by_cases c12 : a0_4 < 0
     ·rw [if_pos c12] at H
      have c12b0 : decide (a0_4 < 0) = true := decide_eq_true c12
      clear c12
      have H' := Aside0.mk H
      clear H
      have hcz13_0 : w7.cell? ⟨gb316, 0, none⟩ = some (.int .i64 a0_0) := (blk_cell BK316.out 0).trans rfl
      have hcz13_1 : w7.cell? ⟨gb316, 1, none⟩ = some (.int .i64 a0_1) := (blk_cell BK316.out 1).trans rfl
      have hcz13_2 : w7.cell? ⟨gb316, 2, none⟩ = some (.int .i64 a0_2) := (blk_cell BK316.out 2).trans rfl
      have hcz13_3 : w7.cell? ⟨gb316, 3, none⟩ = some (.int .i64 a0_3) := (blk_cell BK316.out 3).trans rfl
      have hcz13_4 : w7.cell? ⟨gb316, 4, none⟩ = some (.int .i64 a0_4) := (blk_cell BK316.out 4).trans rfl
      have hcz13_5 : w7.cell? ⟨gb316, 5, none⟩ = some (.slice A0_5 l0_5.length c0_5) := (blk_cell BK316.out 5).trans rfl
      have hcz13_6 : w7.cell? ⟨gb316, 6, none⟩ = some (.slice A0_6 l0_6.length c0_6) := (blk_cell BK316.out 6).trans rfl
      have hfz13_0 := blk_frozen BK316.out 0
      have hfz13_1 := blk_frozen BK316.out 1
      have hfz13_2 := blk_frozen BK316.out 2
      have hfz13_3 := blk_frozen BK316.out 3
      have hfz13_4 := blk_frozen BK316.out 4
      have hfz13_5 := blk_frozen BK316.out 5
      have hfz13_6 := blk_frozen BK316.out 6
      go_wp2
      go_meet
      case rel => exact ⟨_, (true), (by first | rfl | (simp; done) | (simp [*]; done)), H', ⟨by first | omega | exact Nat.le_refl _⟩, ⟨by (with_reducible repeat (first | refine blk_drewN ?_ _ | refine blk_drew ?_ | refine blk_alloc ?_ _)); exact BK316.out⟩, ⟨by repeat (first | (with_reducible first | exact HB.out | apply below_alloc | apply pw_below_drewN | apply below_drew1 | refine below_set ?_ GE316.out) | exact HB.out)⟩⟩
     ·rw [if_neg c12] at H
      have c12b0 : decide (a0_4 < 0) = false := decide_eq_false c12
      clear c12
      by_cases c14 : a0_4 > 1000000000
      ·rw [if_pos c14] at H
       have c14b0 : decide (1000000000 < a0_4) = true := decide_eq_true c14
       clear c14
       have H' := Aside0.mk H
       clear H
       have hcz15_0 : w7.cell? ⟨gb316, 0, none⟩ = some (.int .i64 a0_0) := (blk_cell BK316.out 0).trans rfl
       have hcz15_1 : w7.cell? ⟨gb316, 1, none⟩ = some (.int .i64 a0_1) := (blk_cell BK316.out 1).trans rfl
       have hcz15_2 : w7.cell? ⟨gb316, 2, none⟩ = some (.int .i64 a0_2) := (blk_cell BK316.out 2).trans rfl
       have hcz15_3 : w7.cell? ⟨gb316, 3, none⟩ = some (.int .i64 a0_3) := (blk_cell BK316.out 3).trans rfl
       have hcz15_4 : w7.cell? ⟨gb316, 4, none⟩ = some (.int .i64 a0_4) := (blk_cell BK316.out 4).trans rfl
       have hcz15_5 : w7.cell? ⟨gb316, 5, none⟩ = some (.slice A0_5 l0_5.length c0_5) := (blk_cell BK316.out 5).trans rfl
       have hcz15_6 : w7.cell? ⟨gb316, 6, none⟩ = some (.slice A0_6 l0_6.length c0_6) := (blk_cell BK316.out 6).trans rfl
       have hfz15_0 := blk_frozen BK316.out 0
       have hfz15_1 := blk_frozen BK316.out 1
       have hfz15_2 := blk_frozen BK316.out 2
       have hfz15_3 := blk_frozen BK316.out 3
       have hfz15_4 := blk_frozen BK316.out 4
       have hfz15_5 := blk_frozen BK316.out 5
       have hfz15_6 := blk_frozen BK316.out 6
       go_wp2
       go_meet
       case rel => exact ⟨_, (true), (by first | rfl | (simp; done) | (simp [*]; done)), H', ⟨by first | omega | exact Nat.le_refl _⟩, ⟨by (with_reducible repeat (first | refine blk_drewN ?_ _ | refine blk_drew ?_ | refine blk_alloc ?_ _)); exact BK316.out⟩, ⟨by repeat (first | (with_reducible first | exact HB.out | apply below_alloc | apply pw_below_drewN | apply below_drew1 | refine below_set ?_ GE316.out) | exact HB.out)⟩⟩
      ·rw [if_neg c14] at H
       have c14b0 : decide (1000000000 < a0_4) = false := decide_eq_false c14
       clear c14
       by_cases c16 : a0_0 = 3
       ·rw [if_pos c16] at H
        have c16b0 : (a0_0 == 3) = true := beq_iff_eq.mpr c16
        have c16b1 : (a0_0 != 3) = false := bne_eq_false_iff_eq.mpr c16
        clear c16
        have H' := Aside0.mk H
        clear H
        have hcz17_0 : w7.cell? ⟨gb316, 0, none⟩ = some (.int .i64 a0_0) := (blk_cell BK316.out 0).trans rfl
        have hcz17_1 : w7.cell? ⟨gb316, 1, none⟩ = some (.int .i64 a0_1) := (blk_cell BK316.out 1).trans rfl
        have hcz17_2 : w7.cell? ⟨gb316, 2, none⟩ = some (.int .i64 a0_2) := (blk_cell BK316.out 2).trans rfl
        have hcz17_3 : w7.cell? ⟨gb316, 3, none⟩ = some (.int .i64 a0_3) := (blk_cell BK316.out 3).trans rfl
        have hcz17_4 : w7.cell? ⟨gb316, 4, none⟩ = some (.int .i64 a0_4) := (blk_cell BK316.out 4).trans rfl
        have hcz17_5 : w7.cell? ⟨gb316, 5, none⟩ = some (.slice A0_5 l0_5.length c0_5) := (blk_cell BK316.out 5).trans rfl
        have hcz17_6 : w7.cell? ⟨gb316, 6, none⟩ = some (.slice A0_6 l0_6.length c0_6) := (blk_cell BK316.out 6).trans rfl
        have hfz17_0 := blk_frozen BK316.out 0
        have hfz17_1 := blk_frozen BK316.out 1
        have hfz17_2 := blk_frozen BK316.out 2
        have hfz17_3 := blk_frozen BK316.out 3
        have hfz17_4 := blk_frozen BK316.out 4
        have hfz17_5 := blk_frozen BK316.out 5
        have hfz17_6 := blk_frozen BK316.out 6
        go_wp2
        go_meet
        case rel => exact ⟨_, ((a0_4 == 0)), (by first | rfl | (simp; done) | (simp [*]; done)), H', ⟨by first | omega | exact Nat.le_refl _⟩, ⟨by (with_reducible repeat (first | refine blk_drewN ?_ _ | refine blk_drew ?_ | refine blk_alloc ?_ _)); exact BK316.out⟩, ⟨by repeat (first | (with_reducible first | exact HB.out | apply below_alloc | apply pw_below_drewN | apply below_drew1 | refine below_set ?_ GE316.out) | exact HB.out)⟩⟩
       ·rw [if_neg c16] at H
        have c16b0 : (a0_0 == 3) = false := beq_eq_false_iff_ne.mpr c16
        have c16b1 : (a0_0 != 3) = true := bne_iff_ne.mpr c16
        have H' := Aside0.mk H
        clear H
        have hcz18_0 : w7.cell? ⟨gb316, 0, none⟩ = some (.int .i64 a0_0) := (blk_cell BK316.out 0).trans rfl
        have hcz18_1 : w7.cell? ⟨gb316, 1, none⟩ = some (.int .i64 a0_1) := (blk_cell BK316.out 1).trans rfl
        have hcz18_2 : w7.cell? ⟨gb316, 2, none⟩ = some (.int .i64 a0_2) := (blk_cell BK316.out 2).trans rfl
        have hcz18_3 : w7.cell? ⟨gb316, 3, none⟩ = some (.int .i64 a0_3) := (blk_cell BK316.out 3).trans rfl
        have hcz18_4 : w7.cell? ⟨gb316, 4, none⟩ = some (.int .i64 a0_4) := (blk_cell BK316.out 4).trans rfl
        have hcz18_5 : w7.cell? ⟨gb316, 5, none⟩ = some (.slice A0_5 l0_5.length c0_5) := (blk_cell BK316.out 5).trans rfl
        have hcz18_6 : w7.cell? ⟨gb316, 6, none⟩ = some (.slice A0_6 l0_6.length c0_6) := (blk_cell BK316.out 6).trans rfl
        have hfz18_0 := blk_frozen BK316.out 0
        have hfz18_1 := blk_frozen BK316.out 1
        have hfz18_2 := blk_frozen BK316.out 2
        have hfz18_3 := blk_frozen BK316.out 3
        have hfz18_4 := blk_frozen BK316.out 4
        have hfz18_5 := blk_frozen BK316.out 5
        have hfz18_6 := blk_frozen BK316.out 6
        go_wp2
        go_meet
        case rel => exact ⟨_, (false), (by first | rfl | (simp; done) | (simp [*]; done)), H', ⟨by first | omega | exact Nat.le_refl _⟩, ⟨by (with_reducible repeat (first | refine blk_drewN ?_ _ | refine blk_drew ?_ | refine blk_alloc ?_ _)); exact BK316.out⟩, ⟨by repeat (first | (with_reducible first | exact HB.out | apply below_alloc | apply pw_below_drewN | apply below_drew1 | refine below_set ?_ GE316.out) | exact HB.out)⟩⟩
  case rest =>
   clear HC4
   try clear c1
   try clear c2
   try clear p2
   try clear c3
   try clear c5
   try clear c8
   try clear c8b0
   try clear c10
   try clear c10b0
   try clear c12
   try clear c12b0
   try clear c14
   try clear c14b0
   try clear c16
   try clear c16b0
   try clear c16b1
   try clear hcz11_0
   try clear hcz11_1
   try clear hcz11_2
   try clear hcz11_3
   try clear hcz11_4
   try clear hcz11_5
   try clear hcz11_6
   try clear hcz13_0
   try clear hcz13_1
   try clear hcz13_2
   try clear hcz13_3
   try clear hcz13_4
   try clear hcz13_5
   try clear hcz13_6
   try clear hcz15_0
   try clear hcz15_1
   try clear hcz15_2
   try clear hcz15_3
   try clear hcz15_4
   try clear hcz15_5
   try clear hcz15_6
   try clear hcz17_0
   try clear hcz17_1
   try clear hcz17_2
   try clear hcz17_3
   try clear hcz17_4
   try clear hcz17_5
   try clear hcz17_6
   try clear hcz18_0
   try clear hcz18_1
   try clear hcz18_2
   try clear hcz18_3
   try clear hcz18_4
   try clear hcz18_5
   try clear hcz18_6
   try clear hcz6_0
   try clear hcz6_1
   try clear hcz6_2
   try clear hcz6_3
   try clear hcz6_4
   try clear hcz6_5
   try clear hcz6_6
   try clear hcz9_0
   try clear hcz9_1
   try clear hcz9_2
   try clear hcz9_3
   try clear hcz9_4
   try clear hcz9_5
   try clear hcz9_6
   try clear hfz11_0
   try clear hfz11_1
   try clear hfz11_2
   try clear hfz11_3
   try clear hfz11_4
   try clear hfz11_5
   try clear hfz11_6
   try clear hfz13_0
   try clear hfz13_1
   try clear hfz13_2
   try clear hfz13_3
   try clear hfz13_4
   try clear hfz13_5
   try clear hfz13_6
   try clear hfz15_0
   try clear hfz15_1
   try clear hfz15_2
   try clear hfz15_3
   try clear hfz15_4
   try clear hfz15_5
   try clear hfz15_6
   try clear hfz17_0
   try clear hfz17_1
   try clear hfz17_2
   try clear hfz17_3
   try clear hfz17_4
   try clear hfz17_5
   try clear hfz17_6
   try clear hfz18_0
   try clear hfz18_1
   try clear hfz18_2
   try clear hfz18_3
   try clear hfz18_4
   try clear hfz18_5
   try clear hfz18_6
   try clear hfz6_0
   try clear hfz6_1
   try clear hfz6_2
   try clear hfz6_3
   try clear hfz6_4
   try clear hfz6_5
   try clear hfz6_6
   try clear hfz9_0
   try clear hfz9_1
   try clear hfz9_2
   try clear hfz9_3
   try clear hfz9_4
   try clear hfz9_5
   try clear hfz9_6
   obtain ⟨kq, x34_3, rfl, HA, HJ3, BK316, HB⟩ := hcut
   cases kq with
   | zero => exact absurd HA.out (by simp [frame_Check.j0])
   | succ kj3 =>
    have H := HA.out
    clear HA
    simp only [frame_Check.j0] at H
    by_cases c19 : x34_3 = true
    ·subst c19
     have H1 : (some 5) = some r := by rw [if_pos rfl] at H; exact H
     clear H
     have H := H1
     clear H1
     obtain rfl := Option.some.inj H
     go_wp2
     go_ret
     exact ⟨by first | rfl | (simp [errW_none, errW_some] <;> rfl) | (simp [*, errW_none, errW_some] <;> rfl), by repeat (first | (with_reducible first | exact HB.out | apply below_alloc | apply pw_below_drewN | apply below_drew1 | refine below_set ?_ GE316.out) | exact HB.out)⟩
    ·replace c19 := Bool.eq_false_iff.mpr c19
     subst c19
     have H1 : ((frame_lineError.f kj3 l0_5).bind fun t318 => (if t318 = 0 then ((frame_possible.f kj3 l0_6).bind fun t319 => (if t319 = true then (some 0) else (some 1))) else (some t318))) = some r := by rw [if_neg (show ¬ (false = true) by decide)] at H; exact H
     clear H
     have H := H1
     clear H1
     replace H := Option.bind_eq_some_iff.mp H
     obtain ⟨t318, A200, H⟩ := H
     replace H : (if t318 = 0 then ((frame_possible.f kj3 l0_6).bind fun t319 => (if t319 = true then (some 0) else (some 1))) else (some t318)) = some r := H
     have A20 := Aside0.mk A200
     clear A200
     by_cases c21 : t318 = 0
     ·rw [if_pos c21] at H
      have c21b0 : (t318 == 0) = true := beq_iff_eq.mpr c21
      have c21b1 : (t318 != 0) = false := bne_eq_false_iff_eq.mpr c21
      clear c21
      replace H := Option.bind_eq_some_iff.mp H
      obtain ⟨t319, A220, H⟩ := H
      replace H : (if t319 = true then (some 0) else (some 1)) = some r := H
      have A22 := Aside0.mk A220
      clear A220
      by_cases c23 : t319 = true
      ·subst c23
       have H1 : (some 0) = some r := by rw [if_pos rfl] at H; exact H
       clear H
       have H := H1
       clear H1
       obtain rfl := Option.some.inj H
       have hcz24_0 : wc.cell? ⟨gb316, 0, none⟩ = some (.int .i64 a0_0) := (blk_cell BK316.out 0).trans rfl
       have hcz24_1 : wc.cell? ⟨gb316, 1, none⟩ = some (.int .i64 a0_1) := (blk_cell BK316.out 1).trans rfl
       have hcz24_2 : wc.cell? ⟨gb316, 2, none⟩ = some (.int .i64 a0_2) := (blk_cell BK316.out 2).trans rfl
       have hcz24_3 : wc.cell? ⟨gb316, 3, none⟩ = some (.int .i64 a0_3) := (blk_cell BK316.out 3).trans rfl
       have hcz24_4 : wc.cell? ⟨gb316, 4, none⟩ = some (.int .i64 a0_4) := (blk_cell BK316.out 4).trans rfl
       have hcz24_5 : wc.cell? ⟨gb316, 5, none⟩ = some (.slice A0_5 l0_5.length c0_5) := (blk_cell BK316.out 5).trans rfl
       have hcz24_6 : wc.cell? ⟨gb316, 6, none⟩ = some (.slice A0_6 l0_6.length c0_6) := (blk_cell BK316.out 6).trans rfl
       have hfz24_0 := blk_frozen BK316.out 0
       have hfz24_1 := blk_frozen BK316.out 1
       have hfz24_2 := blk_frozen BK316.out 2
       have hfz24_3 := blk_frozen BK316.out 3
       have hfz24_4 := blk_frozen BK316.out 4
       have hfz24_5 := blk_frozen BK316.out 5
       have hfz24_6 := blk_frozen BK316.out 6
       go_wp2_with (first | ((with_reducible refine gate_callee (f := 43) rfl ?_); refine goesL_ (some 37) rfl rfl Tryd.func43 (by kernel_rfl) rfl #[.slice A0_5 l0_5.length c0_5] rfl (by (try simp only [List.map_toArray, List.map_cons, List.map_nil]); first | done | rfl | (simp only [List.length_drop, List.length_take]; rfl)) ?_; (with_reducible refine (frame_lineError.calls kj3 _ _ l0_5 t318 _ ?side1 ?side2 A20.out).mono ?_); (case side1 => repeat (first | exact (Kd.C_below HR0_5.out HB.out) | (with_reducible refine Kd.C_alloc ?_ _) | (with_reducible refine Kd.C_drewN ?_ _) | (with_reducible refine Kd.C_drew ?_))); (case side2 => exact HC0_5.out); rintro e w' ⟨rfl, ⟨nd, rfl⟩⟩; refine ⟨_, rfl, ?_⟩) | ((with_reducible refine gate_callee (f := 44) rfl ?_); refine goesL_ (some 43) rfl rfl Tryd.func44 (by kernel_rfl) rfl #[.slice A0_6 l0_6.length c0_6] rfl (by (try simp only [List.map_toArray, List.map_cons, List.map_nil]); first | done | rfl | (simp only [List.length_drop, List.length_take]; rfl)) ?_; (with_reducible refine (frame_possible.calls kj3 _ _ l0_6 true _ ?side1 ?side2 A22.out).mono ?_); (case side1 => repeat (first | exact (Kd.C_below HR0_6.out (by repeat (first | (with_reducible first | exact HB.out | apply below_alloc | apply pw_below_drewN | apply below_drew1 | refine below_set ?_ GE316.out) | exact HB.out))) | (with_reducible refine Kd.C_alloc ?_ _) | (with_reducible refine Kd.C_drewN ?_ _) | (with_reducible refine Kd.C_drew ?_))); (case side2 => exact HC0_6.out); rintro e w25 ⟨rfl, hb⟩; refine ⟨_, rfl, ?_⟩; have n0_ := Aside0.mk (blk_below (g := gb316) (o := .cells #[.int .i64 a0_0, .int .i64 a0_1, .int .i64 a0_2, .int .i64 a0_3, .int .i64 a0_4, .slice A0_5 l0_5.length c0_5, .slice A0_6 l0_6.length c0_6] 31 (0, 0)) (by (with_reducible repeat (first | refine blk_drewN ?_ _ | refine blk_drew ?_ | refine blk_alloc ?_ _)); exact BK316.out) hb); have n1_ := Aside0.mk (below_step (by repeat (first | (with_reducible first | exact HB.out | apply below_alloc | apply pw_below_drewN | apply below_drew1 | refine below_set ?_ GE316.out) | exact HB.out)) hb); clear BK316; clear HB; have BK316 := n0_; have HB := n1_; clear n0_ n1_; (try clear hb); (try clear hb2); (try clear hk); (try clear hi)))
       go_ret
       exact ⟨by first | rfl | (simp [errW_none, errW_some] <;> rfl) | (simp [*, errW_none, errW_some] <;> rfl), by repeat (first | (with_reducible first | exact HB.out | apply below_alloc | apply pw_below_drewN | apply below_drew1 | refine below_set ?_ GE316.out) | exact HB.out)⟩
      ·replace c23 := Bool.eq_false_iff.mpr c23
       subst c23
       have H1 : (some 1) = some r := by rw [if_neg (show ¬ (false = true) by decide)] at H; exact H
       clear H
       have H := H1
       clear H1
       obtain rfl := Option.some.inj H
       have hcz26_0 : wc.cell? ⟨gb316, 0, none⟩ = some (.int .i64 a0_0) := (blk_cell BK316.out 0).trans rfl
       have hcz26_1 : wc.cell? ⟨gb316, 1, none⟩ = some (.int .i64 a0_1) := (blk_cell BK316.out 1).trans rfl
       have hcz26_2 : wc.cell? ⟨gb316, 2, none⟩ = some (.int .i64 a0_2) := (blk_cell BK316.out 2).trans rfl
       have hcz26_3 : wc.cell? ⟨gb316, 3, none⟩ = some (.int .i64 a0_3) := (blk_cell BK316.out 3).trans rfl
       have hcz26_4 : wc.cell? ⟨gb316, 4, none⟩ = some (.int .i64 a0_4) := (blk_cell BK316.out 4).trans rfl
       have hcz26_5 : wc.cell? ⟨gb316, 5, none⟩ = some (.slice A0_5 l0_5.length c0_5) := (blk_cell BK316.out 5).trans rfl
       have hcz26_6 : wc.cell? ⟨gb316, 6, none⟩ = some (.slice A0_6 l0_6.length c0_6) := (blk_cell BK316.out 6).trans rfl
       have hfz26_0 := blk_frozen BK316.out 0
       have hfz26_1 := blk_frozen BK316.out 1
       have hfz26_2 := blk_frozen BK316.out 2
       have hfz26_3 := blk_frozen BK316.out 3
       have hfz26_4 := blk_frozen BK316.out 4
       have hfz26_5 := blk_frozen BK316.out 5
       have hfz26_6 := blk_frozen BK316.out 6
       go_wp2_with (first | ((with_reducible refine gate_callee (f := 43) rfl ?_); refine goesL_ (some 37) rfl rfl Tryd.func43 (by kernel_rfl) rfl #[.slice A0_5 l0_5.length c0_5] rfl (by (try simp only [List.map_toArray, List.map_cons, List.map_nil]); first | done | rfl | (simp only [List.length_drop, List.length_take]; rfl)) ?_; (with_reducible refine (frame_lineError.calls kj3 _ _ l0_5 t318 _ ?side1 ?side2 A20.out).mono ?_); (case side1 => repeat (first | exact (Kd.C_below HR0_5.out HB.out) | (with_reducible refine Kd.C_alloc ?_ _) | (with_reducible refine Kd.C_drewN ?_ _) | (with_reducible refine Kd.C_drew ?_))); (case side2 => exact HC0_5.out); rintro e w' ⟨rfl, ⟨nd, rfl⟩⟩; refine ⟨_, rfl, ?_⟩) | ((with_reducible refine gate_callee (f := 44) rfl ?_); refine goesL_ (some 43) rfl rfl Tryd.func44 (by kernel_rfl) rfl #[.slice A0_6 l0_6.length c0_6] rfl (by (try simp only [List.map_toArray, List.map_cons, List.map_nil]); first | done | rfl | (simp only [List.length_drop, List.length_take]; rfl)) ?_; (with_reducible refine (frame_possible.calls kj3 _ _ l0_6 false _ ?side1 ?side2 A22.out).mono ?_); (case side1 => repeat (first | exact (Kd.C_below HR0_6.out (by repeat (first | (with_reducible first | exact HB.out | apply below_alloc | apply pw_below_drewN | apply below_drew1 | refine below_set ?_ GE316.out) | exact HB.out))) | (with_reducible refine Kd.C_alloc ?_ _) | (with_reducible refine Kd.C_drewN ?_ _) | (with_reducible refine Kd.C_drew ?_))); (case side2 => exact HC0_6.out); rintro e w27 ⟨rfl, hb⟩; refine ⟨_, rfl, ?_⟩; have n0_ := Aside0.mk (blk_below (g := gb316) (o := .cells #[.int .i64 a0_0, .int .i64 a0_1, .int .i64 a0_2, .int .i64 a0_3, .int .i64 a0_4, .slice A0_5 l0_5.length c0_5, .slice A0_6 l0_6.length c0_6] 31 (0, 0)) (by (with_reducible repeat (first | refine blk_drewN ?_ _ | refine blk_drew ?_ | refine blk_alloc ?_ _)); exact BK316.out) hb); have n1_ := Aside0.mk (below_step (by repeat (first | (with_reducible first | exact HB.out | apply below_alloc | apply pw_below_drewN | apply below_drew1 | refine below_set ?_ GE316.out) | exact HB.out)) hb); clear BK316; clear HB; have BK316 := n0_; have HB := n1_; clear n0_ n1_; (try clear hb); (try clear hb2); (try clear hk); (try clear hi)))
       go_ret
       exact ⟨by first | rfl | (simp [errW_none, errW_some] <;> rfl) | (simp [*, errW_none, errW_some] <;> rfl), by repeat (first | (with_reducible first | exact HB.out | apply below_alloc | apply pw_below_drewN | apply below_drew1 | refine below_set ?_ GE316.out) | exact HB.out)⟩
     ·rw [if_neg c21] at H
      have c21b0 : (t318 == 0) = false := beq_eq_false_iff_ne.mpr c21
      have c21b1 : (t318 != 0) = true := bne_iff_ne.mpr c21
      obtain rfl := Option.some.inj H
      have hcz28_0 : wc.cell? ⟨gb316, 0, none⟩ = some (.int .i64 a0_0) := (blk_cell BK316.out 0).trans rfl
      have hcz28_1 : wc.cell? ⟨gb316, 1, none⟩ = some (.int .i64 a0_1) := (blk_cell BK316.out 1).trans rfl
      have hcz28_2 : wc.cell? ⟨gb316, 2, none⟩ = some (.int .i64 a0_2) := (blk_cell BK316.out 2).trans rfl
      have hcz28_3 : wc.cell? ⟨gb316, 3, none⟩ = some (.int .i64 a0_3) := (blk_cell BK316.out 3).trans rfl
      have hcz28_4 : wc.cell? ⟨gb316, 4, none⟩ = some (.int .i64 a0_4) := (blk_cell BK316.out 4).trans rfl
      have hcz28_5 : wc.cell? ⟨gb316, 5, none⟩ = some (.slice A0_5 l0_5.length c0_5) := (blk_cell BK316.out 5).trans rfl
      have hcz28_6 : wc.cell? ⟨gb316, 6, none⟩ = some (.slice A0_6 l0_6.length c0_6) := (blk_cell BK316.out 6).trans rfl
      have hfz28_0 := blk_frozen BK316.out 0
      have hfz28_1 := blk_frozen BK316.out 1
      have hfz28_2 := blk_frozen BK316.out 2
      have hfz28_3 := blk_frozen BK316.out 3
      have hfz28_4 := blk_frozen BK316.out 4
      have hfz28_5 := blk_frozen BK316.out 5
      have hfz28_6 := blk_frozen BK316.out 6
      go_wp2_with (first | ((with_reducible refine gate_callee (f := 43) rfl ?_); refine goesL_ (some 37) rfl rfl Tryd.func43 (by kernel_rfl) rfl #[.slice A0_5 l0_5.length c0_5] rfl (by (try simp only [List.map_toArray, List.map_cons, List.map_nil]); first | done | rfl | (simp only [List.length_drop, List.length_take]; rfl)) ?_; (with_reducible refine (frame_lineError.calls kj3 _ _ l0_5 t318 _ ?side1 ?side2 A20.out).mono ?_); (case side1 => repeat (first | exact (Kd.C_below HR0_5.out HB.out) | (with_reducible refine Kd.C_alloc ?_ _) | (with_reducible refine Kd.C_drewN ?_ _) | (with_reducible refine Kd.C_drew ?_))); (case side2 => exact HC0_5.out); rintro e w' ⟨rfl, ⟨nd, rfl⟩⟩; refine ⟨_, rfl, ?_⟩))
      go_ret
      exact ⟨by first | rfl | (simp [errW_none, errW_some] <;> rfl) | (simp [*, errW_none, errW_some] <;> rfl), by repeat (first | (with_reducible first | exact HB.out | apply below_alloc | apply pw_below_drewN | apply below_drew1 | refine below_set ?_ GE316.out) | exact HB.out)⟩
 ·replace c3 := Bool.eq_false_iff.mpr c3
  subst c3
  have H1 : (some 1) = some r := by rw [if_neg (show ¬ (false = true) by decide)] at H; exact H
  clear H
  have H := H1
  clear H1
  obtain rfl := Option.some.inj H
  go_enter Tryd.func28, Tryd.ntmps28
  go_wp2_with (first | ((with_reducible refine gate_dst (N := 1) rfl ?_); refine box_event ?hg (N := 1) ?hd (cs := #[.int .i64 a0_0, .int .i64 a0_1, .int .i64 a0_2, .int .i64 a0_3, .int .i64 a0_4, .slice A0_5 l0_5.length c0_5, .slice A0_6 l0_6.length c0_6]) (t := 31) ?hr ?_; (case hd => rfl); (case hg => rfl); (case hr => first | (go_simp; done) | (go_simp; rfl)); intro gb316 hg w29 hbox hb; have n0_ := Aside0.mk (below_step (by repeat (first | (with_reducible first | exact HB.out | apply below_alloc | apply pw_below_drewN | apply below_drew1) | exact HB.out)) hb); have n1_ := Aside0.mk (hbox); have n2_ := Aside0.mk ((by rw [hg]; exact (below_size (by repeat (first | (with_reducible first | exact HB.out | apply below_alloc | apply pw_below_drewN | apply below_drew1) | exact HB.out))) : w.heap.size ≤ gb316)); have n3_ := Aside0.mk ((by rw [hg]; exact (below_size (by repeat (first | (with_reducible first | exact HB.out | apply below_alloc | apply pw_below_drewN | apply below_drew1) | exact HB.out))) : w.heap.size ≤ gb316)); clear HB; have HB := n0_; have BK316 := n1_; have GW316 := n2_; have GE316 := n3_; clear n0_ n1_ n2_ n3_; clear hb hbox hg; have hcz30_0 : w29.cell? ⟨gb316, 0, none⟩ = some (.int .i64 a0_0) := (blk_cell BK316.out 0).trans rfl; have hcz30_1 : w29.cell? ⟨gb316, 1, none⟩ = some (.int .i64 a0_1) := (blk_cell BK316.out 1).trans rfl; have hcz30_2 : w29.cell? ⟨gb316, 2, none⟩ = some (.int .i64 a0_2) := (blk_cell BK316.out 2).trans rfl; have hcz30_3 : w29.cell? ⟨gb316, 3, none⟩ = some (.int .i64 a0_3) := (blk_cell BK316.out 3).trans rfl; have hcz30_4 : w29.cell? ⟨gb316, 4, none⟩ = some (.int .i64 a0_4) := (blk_cell BK316.out 4).trans rfl; have hcz30_5 : w29.cell? ⟨gb316, 5, none⟩ = some (.slice A0_5 l0_5.length c0_5) := (blk_cell BK316.out 5).trans rfl; have hcz30_6 : w29.cell? ⟨gb316, 6, none⟩ = some (.slice A0_6 l0_6.length c0_6) := (blk_cell BK316.out 6).trans rfl; have hfz30_0 := blk_frozen BK316.out 0; have hfz30_1 := blk_frozen BK316.out 1; have hfz30_2 := blk_frozen BK316.out 2; have hfz30_3 := blk_frozen BK316.out 3; have hfz30_4 := blk_frozen BK316.out 4; have hfz30_5 := blk_frozen BK316.out 5; have hfz30_6 := blk_frozen BK316.out 6) | ((with_reducible refine gate_callee (f := 52) rfl ?_); refine goesL_ (some 5) rfl rfl Tryd.func52 (by kernel_rfl) rfl #[.agg #[.int .i64 a0_0, .int .i64 a0_1, .int .i64 a0_2, .int .i64 a0_3, .int .i64 a0_4, .slice A0_5 l0_5.length c0_5, .slice A0_6 l0_6.length c0_6]] rfl (by (try simp only [List.map_toArray, List.map_cons, List.map_nil]); first | done | rfl | (simp only [List.length_drop, List.length_take]; rfl)) ?_; (with_reducible refine (frame_routed.calls k a0_0 a0_1 a0_2 a0_3 a0_4 _ _ l0_5 _ _ l0_6 false _ ?side1 ?side2 ?side3 ?side4 A2.out).mono ?_); (case side1 => repeat (first | exact (Kd.C_below HR0_5.out HB.out) | (with_reducible refine Kd.C_alloc ?_ _) | (with_reducible refine Kd.C_drewN ?_ _) | (with_reducible refine Kd.C_drew ?_))); (case side2 => exact HC0_5.out); (case side3 => repeat (first | exact (Kd.C_below HR0_6.out HB.out) | (with_reducible refine Kd.C_alloc ?_ _) | (with_reducible refine Kd.C_drewN ?_ _) | (with_reducible refine Kd.C_drew ?_))); (case side4 => exact HC0_6.out); rintro e w31 ⟨rfl, hb⟩; refine ⟨_, rfl, ?_⟩; have n0_ := Aside0.mk (blk_below (g := gb316) (o := .cells #[.int .i64 a0_0, .int .i64 a0_1, .int .i64 a0_2, .int .i64 a0_3, .int .i64 a0_4, .slice A0_5 l0_5.length c0_5, .slice A0_6 l0_6.length c0_6] 31 (0, 0)) (by (with_reducible repeat (first | refine blk_drewN ?_ _ | refine blk_drew ?_ | refine blk_alloc ?_ _)); exact BK316.out) hb); have n1_ := Aside0.mk (below_step (by repeat (first | (with_reducible first | exact HB.out | apply below_alloc | apply pw_below_drewN | apply below_drew1 | refine below_set ?_ GE316.out) | exact HB.out)) hb); clear BK316; clear HB; have BK316 := n0_; have HB := n1_; clear n0_ n1_; (try clear hb); (try clear hb2); (try clear hk); (try clear hi)))
  go_ret
  exact ⟨by first | rfl | (simp [errW_none, errW_some] <;> rfl) | (simp [*, errW_none, errW_some] <;> rfl), by repeat (first | (with_reducible first | exact HB.out | apply below_alloc | apply pw_below_drewN | apply below_drew1 | refine below_set ?_ GE316.out) | exact HB.out)⟩
def IsS88 (w0 W : World) (g : Nat) (f0 : ByteArray) (f1 : Int) (f2 : Int) (f3 : Int) : Prop := W.heap[g]? = some (.cells #[.string f0, .int .i64 f1, .int .i64 f2, .int .i64 f3] 88 (0, 0)) ∧ w0.heap.size ≤ g
theorem IsS88.grown {w0 W : World} {g : Nat} {f0 : ByteArray} {f1 : Int} {f2 : Int} {f3 : Int} {W1 : World} {row : Option Nat} (h : IsS88 w0 W g f0 f1 f2 f3) (hw : W.grownBy W1 row) (hne : some g ≠ row) : IsS88 w0 W1 g f0 f1 f2 f3 := by
 obtain ⟨hb, hg⟩ := h
 exact ⟨blk_grown hb hw hne, hg⟩
theorem IsS88.kept {w0 W : World} {g : Nat} {f0 : ByteArray} {f1 : Int} {f2 : Int} {f3 : Int} {W1 : World} {S : Nat → Prop} (h : IsS88 w0 W g f0 f1 f2 f3) (hk : Kept W W1 S) (hne : ¬ S g) : IsS88 w0 W1 g f0 f1 f2 f3 := by
 obtain ⟨hb, hg⟩ := h
 exact ⟨blk_kept hb hk hne, hg⟩
theorem IsS88.below {w0 W : World} {g : Nat} {f0 : ByteArray} {f1 : Int} {f2 : Int} {f3 : Int} {W1 : World} (h : IsS88 w0 W g f0 f1 f2 f3) (hw : Below W.heap.size W W1) : IsS88 w0 W1 g f0 f1 f2 f3 := h.grown (grown_of_below hw none) (by simp)
theorem IsS88.alloc {w0 W : World} {g : Nat} {f0 : ByteArray} {f1 : Int} {f2 : Int} {f3 : Int} (h : IsS88 w0 W g f0 f1 f2 f3) (o : Obj) : IsS88 w0 (W.alloc o) g f0 f1 f2 f3 := h.below (below_alloc (Below.refl _ _) o)
theorem IsS88.drewN {w0 W : World} {g : Nat} {f0 : ByteArray} {f1 : Int} {f2 : Int} {f3 : Int} (h : IsS88 w0 W g f0 f1 f2 f3) (m : Nat) : IsS88 w0 (W.drewN m) g f0 f1 f2 f3 := h
theorem IsS88.drew {w0 W : World} {g : Nat} {f0 : ByteArray} {f1 : Int} {f2 : Int} {f3 : Int} (h : IsS88 w0 W g f0 f1 f2 f3) : IsS88 w0 W.drew g f0 f1 f2 f3 := h
theorem IsS88.at_ {w0 W : World} {g : Nat} {f0 : ByteArray} {f1 : Int} {f2 : Int} {f3 : Int} {w' : World} {m : Nat} (hq : W.drewN m = w') (h : IsS88 w0 W g f0 f1 f2 f3) : IsS88 w0 w' g f0 f1 f2 f3 := by subst hq; exact IsS88.drewN h m
theorem IsS88.apart {w0 W : World} {g : Nat} {f0 : ByteArray} {f1 : Int} {f2 : Int} {f3 : Int} {α : Type} {d : Kd α} {e : Nat} {base : Nat} {ok : Nat → Prop} {v : Value} {xs : List α} (h : IsS88 w0 W g f0 f1 f2 f3) (ho : d.R e W base ok v xs) (ht : ∀ q, q ∈ e :: d.E → q ≠ 88) : d.R e W base (fun k => ok k ∧ k ≠ g) v xs := by
 obtain ⟨hb, hg⟩ := h
 exact Kd.R_types ho hb ht
theorem IsS88.own_ne {w0 W : World} {g : Nat} {f0 : ByteArray} {f1 : Int} {f2 : Int} {f3 : Int} {α : Type} {d : Kd α} {e : Nat} {base : Nat} {ok : Nat → Prop} {v : Value} {xs : List α} (h : IsS88 w0 W g f0 f1 f2 f3) (ho : d.R e W base ok v xs) (ht : e ≠ 88) : some g ≠ v.ownBlock := by
 obtain ⟨hb, hg⟩ := h
 exact Kd.R_ne ho hb ht
theorem IsS88.lt {w0 W : World} {g : Nat} {f0 : ByteArray} {f1 : Int} {f2 : Int} {f3 : Int} (h : IsS88 w0 W g f0 f1 f2 f3) : g < W.heap.size := by
 obtain ⟨hb, hg⟩ := h
 exact blk_lt hb
theorem IsS88.ge {w0 W : World} {g : Nat} {f0 : ByteArray} {f1 : Int} {f2 : Int} {f3 : Int} (h : IsS88 w0 W g f0 f1 f2 f3) : w0.heap.size ≤ g := by
 obtain ⟨hb, hg⟩ := h
 exact hg
theorem IsS88.ne_blk {w0 W : World} {g : Nat} {f0 : ByteArray} {f1 : Int} {f2 : Int} {f3 : Int} {a : Nat} {cs : Array Value} {t : TypeId} {fr : Nat × Nat} (h : IsS88 w0 W g f0 f1 f2 f3) (hb2 : W.heap[a]? = some (.cells cs t fr)) (ht : t ≠ 88) : g ≠ a := by
 obtain ⟨hb, hg⟩ := h
 rintro rfl
 rw [hb] at hb2
 injection hb2 with hb2
 injection hb2 with _ ht2
 exact ht ht2.symm
theorem IsS88.far {w0 W : World} {g : Nat} {f0 : ByteArray} {f1 : Int} {f2 : Int} {f3 : Int} {p : Addr} (h : IsS88 w0 W g f0 f1 f2 f3) (hne : g ≠ p.block) (u : Value) : IsS88 w0 (W.setCell p u) g f0 f1 f2 f3 := by
 obtain ⟨hb, hg⟩ := h
 exact ⟨blk_far hb hne u, hg⟩
theorem cellS88_0 {W : World} {g : Nat} {f0 : ByteArray} {f1 : Int} {f2 : Int} {f3 : Int} (h : W.heap[g]? = some (.cells #[.string f0, .int .i64 f1, .int .i64 f2, .int .i64 f3] 88 (0, 0))) : W.cell? ⟨g, 0, none⟩ = some (.string f0) := (blk_cell h 0).trans rfl
theorem IsS88.set_0 {w0 W : World} {g : Nat} {f0 : ByteArray} {f1 : Int} {f2 : Int} {f3 : Int} (h : IsS88 w0 W g f0 f1 f2 f3) (x : ByteArray) : IsS88 w0 (W.setCell ⟨g, 0, none⟩ (.string x)) g x f1 f2 f3 := by
 obtain ⟨hb, hg⟩ := h
 exact ⟨by simpa using blk_set hb 0 (.string x), hg⟩
theorem cellS88_1 {W : World} {g : Nat} {f0 : ByteArray} {f1 : Int} {f2 : Int} {f3 : Int} (h : W.heap[g]? = some (.cells #[.string f0, .int .i64 f1, .int .i64 f2, .int .i64 f3] 88 (0, 0))) : W.cell? ⟨g, 1, none⟩ = some (.int .i64 f1) := (blk_cell h 1).trans rfl
theorem IsS88.set_1 {w0 W : World} {g : Nat} {f0 : ByteArray} {f1 : Int} {f2 : Int} {f3 : Int} (h : IsS88 w0 W g f0 f1 f2 f3) (x : Int) : IsS88 w0 (W.setCell ⟨g, 1, none⟩ (.int .i64 x)) g f0 x f2 f3 := by
 obtain ⟨hb, hg⟩ := h
 exact ⟨by simpa using blk_set hb 1 (.int .i64 x), hg⟩
theorem cellS88_2 {W : World} {g : Nat} {f0 : ByteArray} {f1 : Int} {f2 : Int} {f3 : Int} (h : W.heap[g]? = some (.cells #[.string f0, .int .i64 f1, .int .i64 f2, .int .i64 f3] 88 (0, 0))) : W.cell? ⟨g, 2, none⟩ = some (.int .i64 f2) := (blk_cell h 2).trans rfl
theorem IsS88.set_2 {w0 W : World} {g : Nat} {f0 : ByteArray} {f1 : Int} {f2 : Int} {f3 : Int} (h : IsS88 w0 W g f0 f1 f2 f3) (x : Int) : IsS88 w0 (W.setCell ⟨g, 2, none⟩ (.int .i64 x)) g f0 f1 x f3 := by
 obtain ⟨hb, hg⟩ := h
 exact ⟨by simpa using blk_set hb 2 (.int .i64 x), hg⟩
theorem cellS88_3 {W : World} {g : Nat} {f0 : ByteArray} {f1 : Int} {f2 : Int} {f3 : Int} (h : W.heap[g]? = some (.cells #[.string f0, .int .i64 f1, .int .i64 f2, .int .i64 f3] 88 (0, 0))) : W.cell? ⟨g, 3, none⟩ = some (.int .i64 f3) := (blk_cell h 3).trans rfl
theorem IsS88.set_3 {w0 W : World} {g : Nat} {f0 : ByteArray} {f1 : Int} {f2 : Int} {f3 : Int} (h : IsS88 w0 W g f0 f1 f2 f3) (x : Int) : IsS88 w0 (W.setCell ⟨g, 3, none⟩ (.int .i64 x)) g f0 f1 f2 x := by
 obtain ⟨hb, hg⟩ := h
 exact ⟨by simpa using blk_set hb 3 (.int .i64 x), hg⟩
theorem IsS88.new (w0 W : World) (f0 : ByteArray) (f1 : Int) (f2 : Int) (f3 : Int) (hB : Below w0.heap.size w0 W) : IsS88 w0 (W.alloc (.cells #[.string f0, .int .i64 f1, .int .i64 f2, .int .i64 f3] 88)) W.heap.size f0 f1 f2 f3 := ⟨by simpa using heap_alloc_new W _, hB.size⟩
def encode_Reader_Fail.f (s0_0 : ByteArray) (s0_1 : Int) (s0_2 : Int) (s0_3 : Int) : Option (ByteArray × Int × Int × Int) := if s0_3 = 0 then (some (s0_0, s0_1, s0_2, 2)) else (some (s0_0, s0_1, s0_2, s0_3))
set_option maxHeartbeats 8000000 in
set_option maxRecDepth 100000 in
theorem encode_Reader_Fail.calls (g : Nat) (s0_0 : ByteArray) (s0_1 : Int) (s0_2 : Int) (s0_3 : Int) (r1 : ByteArray) (r2 : Int) (r3 : Int) (r4 : Int) (w0 w : World) (hI : IsS88 w0 w g s0_0 s0_1 s0_2 s0_3) (hB : Below w0.heap.size w0 w) (h : encode_Reader_Fail.f s0_0 s0_1 s0_2 s0_3 = some (r1, r2, r3, r4)) :
  Calls Tryd.prog 68 #[.pointer (some ⟨g, 0, none⟩)] w fun e w' => e = .returned (.tuple #[]) ∧ IsS88 w0 w' g r1 r2 r3 r4 ∧ Below w0.heap.size w0 w' ∧ KeepBut w w' g none := by
 have HI0 := Aside0.mk hI
 have HK := Aside0.mk (KeepBut.refl w g none)
 have HL := Aside0.mk hB.size
 clear hI
 have HW0 := Aside0.mk hB.size
 have HB := Aside0.mk hB
 clear hB
 have H : (if s0_3 = 0 then (some (s0_0, s0_1, s0_2, 2)) else (some (s0_0, s0_1, s0_2, s0_3))) = some (r1, r2, r3, r4) := h
 clear h
 by_cases c2 : s0_3 = 0
 ·rw [if_pos c2] at H
  have c2b0 : (s0_3 == 0) = true := beq_iff_eq.mpr c2
  have c2b1 : (s0_3 != 0) = false := bne_eq_false_iff_eq.mpr c2
  clear c2
  simp only [Option.some.injEq, Prod.mk.injEq] at H
  obtain ⟨rfl, rfl, rfl, rfl⟩ := H
  obtain ⟨HGz3, hgz3⟩ := HI0.out
  have hcz3_0 := cellS88_0 HGz3
  have hcz3_1 := cellS88_1 HGz3
  have hcz3_2 := cellS88_2 HGz3
  have hcz3_3 := cellS88_3 HGz3
  have hfz3_0 := blk_frozen HGz3 0
  have hfz3_1 := blk_frozen HGz3 1
  have hfz3_2 := blk_frozen HGz3 2
  have hfz3_3 := blk_frozen HGz3 3
  clear HGz3 hgz3
  go_enter Tryd.func68, Tryd.ntmps68
  go_wp2
  first | go_end0 | ((try simp only [Exit.inBlock, Exit.then]); refine bodyPost_ret (results_none rfl _ _ _) rfl ?_)
  exact ⟨by first | rfl | (simp [errW_none, errW_some] <;> rfl) | (simp [*, errW_none, errW_some] <;> rfl), by repeat (first | (with_reducible first | exact HI0.out | apply IsS88.alloc | apply IsS88.drewN | apply IsS88.drew | apply IsS88.set_0 | apply IsS88.set_1 | apply IsS88.set_2 | apply IsS88.set_3) | exact HI0.out), by repeat (first | (with_reducible first | exact HB.out | apply below_alloc | apply pw_below_drewN | apply below_drew1 | refine below_set ?_ (IsS88.ge HI0.out)) | exact HB.out), by repeat (first | (with_reducible first | exact HK.out | apply KeepBut.set_ | apply keep_drewN | apply keep_drew | apply keep_alloc) | exact HK.out)⟩
 ·rw [if_neg c2] at H
  have c2b0 : (s0_3 == 0) = false := beq_eq_false_iff_ne.mpr c2
  have c2b1 : (s0_3 != 0) = true := bne_iff_ne.mpr c2
  simp only [Option.some.injEq, Prod.mk.injEq] at H
  obtain ⟨rfl, rfl, rfl, rfl⟩ := H
  obtain ⟨HGz4, hgz4⟩ := HI0.out
  have hcz4_0 := cellS88_0 HGz4
  have hcz4_1 := cellS88_1 HGz4
  have hcz4_2 := cellS88_2 HGz4
  have hcz4_3 := cellS88_3 HGz4
  have hfz4_0 := blk_frozen HGz4 0
  have hfz4_1 := blk_frozen HGz4 1
  have hfz4_2 := blk_frozen HGz4 2
  have hfz4_3 := blk_frozen HGz4 3
  clear HGz4 hgz4
  go_enter Tryd.func68, Tryd.ntmps68
  go_wp2
  first | go_end0 | ((try simp only [Exit.inBlock, Exit.then]); refine bodyPost_ret (results_none rfl _ _ _) rfl ?_)
  exact ⟨by first | rfl | (simp [errW_none, errW_some] <;> rfl) | (simp [*, errW_none, errW_some] <;> rfl), by repeat (first | (with_reducible first | exact HI0.out | apply IsS88.alloc | apply IsS88.drewN | apply IsS88.drew | apply IsS88.set_0 | apply IsS88.set_1 | apply IsS88.set_2 | apply IsS88.set_3) | exact HI0.out), by repeat (first | (with_reducible first | exact HB.out | apply below_alloc | apply pw_below_drewN | apply below_drew1 | refine below_set ?_ (IsS88.ge HI0.out)) | exact HB.out), by repeat (first | (with_reducible first | exact HK.out | apply KeepBut.set_ | apply keep_drewN | apply keep_drew | apply keep_alloc) | exact HK.out)⟩
def encode_Reader_head.f (s0_0 : ByteArray) (s0_1 : Int) (s0_2 : Int) (s0_3 : Int) (a1 : Int) (a2 : Bool) (a3 : Int) : Option (ByteArray × Int × Int × Int) := if s0_3 = 0 then (if a2 = true then (if s0_1 ≥ (s0_0.size : Int) then ((encode_Reader_Fail.f s0_0 s0_1 s0_2 s0_3).bind fun bt320 => (some (bt320.1, bt320.2.1, bt320.2.2.1, bt320.2.2.2))) else (if 0 ≤ s0_1 then (if s0_1 < (s0_0.size : Int) then (if (bt s0_0 s0_1) = a1 then (some (s0_0, wrap64 (s0_1 + 1), wrap64 (s0_2 + a3), s0_3)) else ((encode_Reader_Fail.f s0_0 s0_1 s0_2 s0_3).bind fun bt324 => (some (bt324.1, bt324.2.1, bt324.2.2.1, bt324.2.2.2)))) else (none)) else (none))) else ((encode_Reader_Fail.f s0_0 s0_1 s0_2 s0_3).bind fun bt328 => (some (bt328.1, bt328.2.1, bt328.2.2.1, bt328.2.2.2)))) else (some (s0_0, s0_1, s0_2, s0_3))
set_option maxHeartbeats 8000000 in
set_option maxRecDepth 100000 in
theorem encode_Reader_head.calls (g : Nat) (s0_0 : ByteArray) (s0_1 : Int) (s0_2 : Int) (s0_3 : Int) (a1 : Int) (a2 : Bool) (a3 : Int) (r1 : ByteArray) (r2 : Int) (r3 : Int) (r4 : Int) (w0 w : World) (hI : IsS88 w0 w g s0_0 s0_1 s0_2 s0_3) (hB : Below w0.heap.size w0 w) (h : encode_Reader_head.f s0_0 s0_1 s0_2 s0_3 a1 a2 a3 = some (r1, r2, r3, r4)) :
  Calls Tryd.prog 56 #[.pointer (some ⟨g, 0, none⟩), .int .u8 a1, .bool a2, .int .i64 a3] w fun e w' => e = .returned (.tuple #[]) ∧ IsS88 w0 w' g r1 r2 r3 r4 ∧ Below w0.heap.size w0 w' ∧ KeepBut w w' g none := by
 have HI0 := Aside0.mk hI
 have HK := Aside0.mk (KeepBut.refl w g none)
 have HL := Aside0.mk hB.size
 clear hI
 have HW0 := Aside0.mk hB.size
 have HB := Aside0.mk hB
 clear hB
 have H : (if s0_3 = 0 then (if a2 = true then (if s0_1 ≥ (s0_0.size : Int) then ((encode_Reader_Fail.f s0_0 s0_1 s0_2 s0_3).bind fun bt320 => (some (bt320.1, bt320.2.1, bt320.2.2.1, bt320.2.2.2))) else (if 0 ≤ s0_1 then (if s0_1 < (s0_0.size : Int) then (if (bt s0_0 s0_1) = a1 then (some (s0_0, wrap64 (s0_1 + 1), wrap64 (s0_2 + a3), s0_3)) else ((encode_Reader_Fail.f s0_0 s0_1 s0_2 s0_3).bind fun bt324 => (some (bt324.1, bt324.2.1, bt324.2.2.1, bt324.2.2.2)))) else (none)) else (none))) else ((encode_Reader_Fail.f s0_0 s0_1 s0_2 s0_3).bind fun bt328 => (some (bt328.1, bt328.2.1, bt328.2.2.1, bt328.2.2.2)))) else (some (s0_0, s0_1, s0_2, s0_3))) = some (r1, r2, r3, r4) := h
 clear h
 by_cases c5 : s0_3 = 0
 ·rw [if_pos c5] at H
  have c5b0 : (s0_3 == 0) = true := beq_iff_eq.mpr c5
  have c5b1 : (s0_3 != 0) = false := bne_eq_false_iff_eq.mpr c5
  clear c5
  by_cases c6 : a2 = true
  ·subst c6
   have H1 : (if s0_1 ≥ (s0_0.size : Int) then ((encode_Reader_Fail.f s0_0 s0_1 s0_2 s0_3).bind fun bt320 => (some (bt320.1, bt320.2.1, bt320.2.2.1, bt320.2.2.2))) else (if 0 ≤ s0_1 then (if s0_1 < (s0_0.size : Int) then (if (bt s0_0 s0_1) = a1 then (some (s0_0, wrap64 (s0_1 + 1), wrap64 (s0_2 + a3), s0_3)) else ((encode_Reader_Fail.f s0_0 s0_1 s0_2 s0_3).bind fun bt324 => (some (bt324.1, bt324.2.1, bt324.2.2.1, bt324.2.2.2)))) else (none)) else (none))) = some (r1, r2, r3, r4) := by rw [if_pos rfl] at H; exact H
   clear H
   have H := H1
   clear H1
   by_cases c7 : s0_1 ≥ (s0_0.size : Int)
   ·rw [if_pos c7] at H
    have c7b0 : decide ((s0_0.size : Int) ≤ s0_1) = true := decide_eq_true c7
    clear c7
    replace H := Option.bind_eq_some_iff.mp H
    obtain ⟨⟨t320, t321, t322, t323⟩, A80, H⟩ := H
    replace H : (some (t320, t321, t322, t323)) = some (r1, r2, r3, r4) := H
    have A8 := Aside0.mk A80
    clear A80
    simp only [Option.some.injEq, Prod.mk.injEq] at H
    obtain ⟨rfl, rfl, rfl, rfl⟩ := H
    obtain ⟨HGz9, hgz9⟩ := HI0.out
    have hcz9_0 := cellS88_0 HGz9
    have hcz9_1 := cellS88_1 HGz9
    have hcz9_2 := cellS88_2 HGz9
    have hcz9_3 := cellS88_3 HGz9
    have hfz9_0 := blk_frozen HGz9 0
    have hfz9_1 := blk_frozen HGz9 1
    have hfz9_2 := blk_frozen HGz9 2
    have hfz9_3 := blk_frozen HGz9 3
    clear HGz9 hgz9
    go_enter Tryd.func56, Tryd.ntmps56
    go_wp2_with (first | (go_at_call 68; (with_reducible refine (encode_Reader_Fail.calls g s0_0 s0_1 s0_2 s0_3 t320 t321 t322 t323 w0 _ ?side1 ?side2 A8.out).mono ?_); (case side1 => repeat (first | (with_reducible first | exact HI0.out | apply IsS88.alloc | apply IsS88.drewN | apply IsS88.drew | apply IsS88.set_0 | apply IsS88.set_1 | apply IsS88.set_2 | apply IsS88.set_3) | exact HI0.out)); (case side2 => repeat (first | (with_reducible first | exact HB.out | apply below_alloc | apply pw_below_drewN | apply below_drew1 | refine below_set ?_ (IsS88.ge HI0.out)) | exact HB.out)); rintro e w10 ⟨rfl, hi, hb, hk⟩; have n0_ := Aside0.mk (KeepBut.trans (by repeat (first | (with_reducible first | exact HK.out | apply KeepBut.set_ | apply keep_drewN | apply keep_drew | apply keep_alloc) | exact HK.out)) hk (.inl rfl)); have n1_ := Aside0.mk (hb); have n2_ := Aside0.mk (hi); clear HK; clear HB; clear HI0; have HK := n0_; have HB := n1_; have HI0 := n2_; clear n0_ n1_ n2_; (try clear hb); (try clear hb2); (try clear hk); (try clear hi)))
    repeat (go_quiet (first | (go_at_call 68; (with_reducible refine (encode_Reader_Fail.calls g s0_0 s0_1 s0_2 s0_3 t320 t321 t322 t323 w0 _ ?side1 ?side2 A8.out).mono ?_); (case side1 => repeat (first | (with_reducible first | exact HI0.out | apply IsS88.alloc | apply IsS88.drewN | apply IsS88.drew | apply IsS88.set_0 | apply IsS88.set_1 | apply IsS88.set_2 | apply IsS88.set_3) | exact HI0.out)); (case side2 => repeat (first | (with_reducible first | exact HB.out | apply below_alloc | apply pw_below_drewN | apply below_drew1 | refine below_set ?_ (IsS88.ge HI0.out)) | exact HB.out)); rintro e w10 ⟨rfl, hi, hb, hk⟩; have n0_ := Aside0.mk (KeepBut.trans (by repeat (first | (with_reducible first | exact HK.out | apply KeepBut.set_ | apply keep_drewN | apply keep_drew | apply keep_alloc) | exact HK.out)) hk (.inl rfl)); have n1_ := Aside0.mk (hb); have n2_ := Aside0.mk (hi); clear HK; clear HB; clear HI0; have HK := n0_; have HB := n1_; have HI0 := n2_; clear n0_ n1_ n2_; (try clear hb); (try clear hb2); (try clear hk); (try clear hi))); try go_wp2_with (first | (go_at_call 68; (with_reducible refine (encode_Reader_Fail.calls g s0_0 s0_1 s0_2 s0_3 t320 t321 t322 t323 w0 _ ?side1 ?side2 A8.out).mono ?_); (case side1 => repeat (first | (with_reducible first | exact HI0.out | apply IsS88.alloc | apply IsS88.drewN | apply IsS88.drew | apply IsS88.set_0 | apply IsS88.set_1 | apply IsS88.set_2 | apply IsS88.set_3) | exact HI0.out)); (case side2 => repeat (first | (with_reducible first | exact HB.out | apply below_alloc | apply pw_below_drewN | apply below_drew1 | refine below_set ?_ (IsS88.ge HI0.out)) | exact HB.out)); rintro e w10 ⟨rfl, hi, hb, hk⟩; have n0_ := Aside0.mk (KeepBut.trans (by repeat (first | (with_reducible first | exact HK.out | apply KeepBut.set_ | apply keep_drewN | apply keep_drew | apply keep_alloc) | exact HK.out)) hk (.inl rfl)); have n1_ := Aside0.mk (hb); have n2_ := Aside0.mk (hi); clear HK; clear HB; clear HI0; have HK := n0_; have HB := n1_; have HI0 := n2_; clear n0_ n1_ n2_; (try clear hb); (try clear hb2); (try clear hk); (try clear hi))))
    first | go_end0 | ((try simp only [Exit.inBlock, Exit.then]); refine bodyPost_ret (results_none rfl _ _ _) rfl ?_)
    exact ⟨by first | rfl | (simp [errW_none, errW_some] <;> rfl) | (simp [*, errW_none, errW_some] <;> rfl), by repeat (first | (with_reducible first | exact HI0.out | apply IsS88.alloc | apply IsS88.drewN | apply IsS88.drew | apply IsS88.set_0 | apply IsS88.set_1 | apply IsS88.set_2 | apply IsS88.set_3) | exact HI0.out), by repeat (first | (with_reducible first | exact HB.out | apply below_alloc | apply pw_below_drewN | apply below_drew1 | refine below_set ?_ (IsS88.ge HI0.out)) | exact HB.out), by repeat (first | (with_reducible first | exact HK.out | apply KeepBut.set_ | apply keep_drewN | apply keep_drew | apply keep_alloc) | exact HK.out)⟩
   ·rw [if_neg c7] at H
    have c7b0 : decide ((s0_0.size : Int) ≤ s0_1) = false := decide_eq_false c7
    clear c7
    by_cases c11 : 0 ≤ s0_1
    ·rw [if_pos c11] at H
     have c11b0 : decide (0 ≤ s0_1) = true := decide_eq_true c11
     clear c11
     by_cases c12 : s0_1 < (s0_0.size : Int)
     ·rw [if_pos c12] at H
      have c12b0 : decide (s0_1 < (s0_0.size : Int)) = true := decide_eq_true c12
      clear c12
      by_cases c14 : (bt s0_0 s0_1) = a1
      ·rw [if_pos c14] at H
       have c14b0 : ((bt s0_0 s0_1) == a1) = true := beq_iff_eq.mpr c14
       have c14b1 : ((bt s0_0 s0_1) != a1) = false := bne_eq_false_iff_eq.mpr c14
       clear c14
       simp only [Option.some.injEq, Prod.mk.injEq] at H
       obtain ⟨rfl, rfl, rfl, rfl⟩ := H
       obtain ⟨HGz15, hgz15⟩ := HI0.out
       have hcz15_0 := cellS88_0 HGz15
       have hcz15_1 := cellS88_1 HGz15
       have hcz15_2 := cellS88_2 HGz15
       have hcz15_3 := cellS88_3 HGz15
       have hfz15_0 := blk_frozen HGz15 0
       have hfz15_1 := blk_frozen HGz15 1
       have hfz15_2 := blk_frozen HGz15 2
       have hfz15_3 := blk_frozen HGz15 3
       clear HGz15 hgz15
       have p13 : 0 ≤ (s0_1 : Int) := of_decide_eq_true (by first | (with_reducible assumption) | assumption)
       have q13 : s0_1 < (s0_0.size : Int) := of_decide_eq_true (by first | (with_reducible assumption) | assumption)
       have hx13 := bt_at s0_0 s0_1
       replace p13 := eq_true p13
       replace q13 := eq_true q13
       go_enter Tryd.func56, Tryd.ntmps56
       go_wp2
       repeat (go_quiet (fail); try go_wp2)
       first | go_end0 | ((try simp only [Exit.inBlock, Exit.then]); refine bodyPost_ret (results_none rfl _ _ _) rfl ?_)
       exact ⟨by first | rfl | (simp [errW_none, errW_some] <;> rfl) | (simp [*, errW_none, errW_some] <;> rfl), by repeat (first | (with_reducible first | exact HI0.out | apply IsS88.alloc | apply IsS88.drewN | apply IsS88.drew | apply IsS88.set_0 | apply IsS88.set_1 | apply IsS88.set_2 | apply IsS88.set_3) | exact HI0.out), by repeat (first | (with_reducible first | exact HB.out | apply below_alloc | apply pw_below_drewN | apply below_drew1 | refine below_set ?_ (IsS88.ge HI0.out)) | exact HB.out), by repeat (first | (with_reducible first | exact HK.out | apply KeepBut.set_ | apply keep_drewN | apply keep_drew | apply keep_alloc) | exact HK.out)⟩
      ·rw [if_neg c14] at H
       have c14b0 : ((bt s0_0 s0_1) == a1) = false := beq_eq_false_iff_ne.mpr c14
       have c14b1 : ((bt s0_0 s0_1) != a1) = true := bne_iff_ne.mpr c14
       replace H := Option.bind_eq_some_iff.mp H
       obtain ⟨⟨t324, t325, t326, t327⟩, A160, H⟩ := H
       replace H : (some (t324, t325, t326, t327)) = some (r1, r2, r3, r4) := H
       have A16 := Aside0.mk A160
       clear A160
       simp only [Option.some.injEq, Prod.mk.injEq] at H
       obtain ⟨rfl, rfl, rfl, rfl⟩ := H
       obtain ⟨HGz17, hgz17⟩ := HI0.out
       have hcz17_0 := cellS88_0 HGz17
       have hcz17_1 := cellS88_1 HGz17
       have hcz17_2 := cellS88_2 HGz17
       have hcz17_3 := cellS88_3 HGz17
       have hfz17_0 := blk_frozen HGz17 0
       have hfz17_1 := blk_frozen HGz17 1
       have hfz17_2 := blk_frozen HGz17 2
       have hfz17_3 := blk_frozen HGz17 3
       clear HGz17 hgz17
       have p13 : 0 ≤ (s0_1 : Int) := of_decide_eq_true (by first | (with_reducible assumption) | assumption)
       have q13 : s0_1 < (s0_0.size : Int) := of_decide_eq_true (by first | (with_reducible assumption) | assumption)
       have hx13 := bt_at s0_0 s0_1
       replace p13 := eq_true p13
       replace q13 := eq_true q13
       go_enter Tryd.func56, Tryd.ntmps56
       go_wp2_with (first | (go_at_call 68; (with_reducible refine (encode_Reader_Fail.calls g s0_0 s0_1 s0_2 s0_3 t324 t325 t326 t327 w0 _ ?side1 ?side2 A16.out).mono ?_); (case side1 => repeat (first | (with_reducible first | exact HI0.out | apply IsS88.alloc | apply IsS88.drewN | apply IsS88.drew | apply IsS88.set_0 | apply IsS88.set_1 | apply IsS88.set_2 | apply IsS88.set_3) | exact HI0.out)); (case side2 => repeat (first | (with_reducible first | exact HB.out | apply below_alloc | apply pw_below_drewN | apply below_drew1 | refine below_set ?_ (IsS88.ge HI0.out)) | exact HB.out)); rintro e w18 ⟨rfl, hi, hb, hk⟩; have n0_ := Aside0.mk (KeepBut.trans (by repeat (first | (with_reducible first | exact HK.out | apply KeepBut.set_ | apply keep_drewN | apply keep_drew | apply keep_alloc) | exact HK.out)) hk (.inl rfl)); have n1_ := Aside0.mk (hb); have n2_ := Aside0.mk (hi); clear HK; clear HB; clear HI0; have HK := n0_; have HB := n1_; have HI0 := n2_; clear n0_ n1_ n2_; (try clear hb); (try clear hb2); (try clear hk); (try clear hi)))
       repeat (go_quiet (first | (go_at_call 68; (with_reducible refine (encode_Reader_Fail.calls g s0_0 s0_1 s0_2 s0_3 t324 t325 t326 t327 w0 _ ?side1 ?side2 A16.out).mono ?_); (case side1 => repeat (first | (with_reducible first | exact HI0.out | apply IsS88.alloc | apply IsS88.drewN | apply IsS88.drew | apply IsS88.set_0 | apply IsS88.set_1 | apply IsS88.set_2 | apply IsS88.set_3) | exact HI0.out)); (case side2 => repeat (first | (with_reducible first | exact HB.out | apply below_alloc | apply pw_below_drewN | apply below_drew1 | refine below_set ?_ (IsS88.ge HI0.out)) | exact HB.out)); rintro e w18 ⟨rfl, hi, hb, hk⟩; have n0_ := Aside0.mk (KeepBut.trans (by repeat (first | (with_reducible first | exact HK.out | apply KeepBut.set_ | apply keep_drewN | apply keep_drew | apply keep_alloc) | exact HK.out)) hk (.inl rfl)); have n1_ := Aside0.mk (hb); have n2_ := Aside0.mk (hi); clear HK; clear HB; clear HI0; have HK := n0_; have HB := n1_; have HI0 := n2_; clear n0_ n1_ n2_; (try clear hb); (try clear hb2); (try clear hk); (try clear hi))); try go_wp2_with (first | (go_at_call 68; (with_reducible refine (encode_Reader_Fail.calls g s0_0 s0_1 s0_2 s0_3 t324 t325 t326 t327 w0 _ ?side1 ?side2 A16.out).mono ?_); (case side1 => repeat (first | (with_reducible first | exact HI0.out | apply IsS88.alloc | apply IsS88.drewN | apply IsS88.drew | apply IsS88.set_0 | apply IsS88.set_1 | apply IsS88.set_2 | apply IsS88.set_3) | exact HI0.out)); (case side2 => repeat (first | (with_reducible first | exact HB.out | apply below_alloc | apply pw_below_drewN | apply below_drew1 | refine below_set ?_ (IsS88.ge HI0.out)) | exact HB.out)); rintro e w18 ⟨rfl, hi, hb, hk⟩; have n0_ := Aside0.mk (KeepBut.trans (by repeat (first | (with_reducible first | exact HK.out | apply KeepBut.set_ | apply keep_drewN | apply keep_drew | apply keep_alloc) | exact HK.out)) hk (.inl rfl)); have n1_ := Aside0.mk (hb); have n2_ := Aside0.mk (hi); clear HK; clear HB; clear HI0; have HK := n0_; have HB := n1_; have HI0 := n2_; clear n0_ n1_ n2_; (try clear hb); (try clear hb2); (try clear hk); (try clear hi))))
       first | go_end0 | ((try simp only [Exit.inBlock, Exit.then]); refine bodyPost_ret (results_none rfl _ _ _) rfl ?_)
       exact ⟨by first | rfl | (simp [errW_none, errW_some] <;> rfl) | (simp [*, errW_none, errW_some] <;> rfl), by repeat (first | (with_reducible first | exact HI0.out | apply IsS88.alloc | apply IsS88.drewN | apply IsS88.drew | apply IsS88.set_0 | apply IsS88.set_1 | apply IsS88.set_2 | apply IsS88.set_3) | exact HI0.out), by repeat (first | (with_reducible first | exact HB.out | apply below_alloc | apply pw_below_drewN | apply below_drew1 | refine below_set ?_ (IsS88.ge HI0.out)) | exact HB.out), by repeat (first | (with_reducible first | exact HK.out | apply KeepBut.set_ | apply keep_drewN | apply keep_drew | apply keep_alloc) | exact HK.out)⟩
     ·rw [if_neg c12] at H
      exact absurd H (by simp)
    ·rw [if_neg c11] at H
     exact absurd H (by simp)
  ·replace c6 := Bool.eq_false_iff.mpr c6
   subst c6
   have H1 : ((encode_Reader_Fail.f s0_0 s0_1 s0_2 s0_3).bind fun bt328 => (some (bt328.1, bt328.2.1, bt328.2.2.1, bt328.2.2.2))) = some (r1, r2, r3, r4) := by rw [if_neg (show ¬ (false = true) by decide)] at H; exact H
   clear H
   have H := H1
   clear H1
   replace H := Option.bind_eq_some_iff.mp H
   obtain ⟨⟨t328, t329, t330, t331⟩, A190, H⟩ := H
   replace H : (some (t328, t329, t330, t331)) = some (r1, r2, r3, r4) := H
   have A19 := Aside0.mk A190
   clear A190
   simp only [Option.some.injEq, Prod.mk.injEq] at H
   obtain ⟨rfl, rfl, rfl, rfl⟩ := H
   obtain ⟨HGz20, hgz20⟩ := HI0.out
   have hcz20_0 := cellS88_0 HGz20
   have hcz20_1 := cellS88_1 HGz20
   have hcz20_2 := cellS88_2 HGz20
   have hcz20_3 := cellS88_3 HGz20
   have hfz20_0 := blk_frozen HGz20 0
   have hfz20_1 := blk_frozen HGz20 1
   have hfz20_2 := blk_frozen HGz20 2
   have hfz20_3 := blk_frozen HGz20 3
   clear HGz20 hgz20
   go_enter Tryd.func56, Tryd.ntmps56
   go_wp2_with (first | (go_at_call 68; (with_reducible refine (encode_Reader_Fail.calls g s0_0 s0_1 s0_2 s0_3 t328 t329 t330 t331 w0 _ ?side1 ?side2 A19.out).mono ?_); (case side1 => repeat (first | (with_reducible first | exact HI0.out | apply IsS88.alloc | apply IsS88.drewN | apply IsS88.drew | apply IsS88.set_0 | apply IsS88.set_1 | apply IsS88.set_2 | apply IsS88.set_3) | exact HI0.out)); (case side2 => repeat (first | (with_reducible first | exact HB.out | apply below_alloc | apply pw_below_drewN | apply below_drew1 | refine below_set ?_ (IsS88.ge HI0.out)) | exact HB.out)); rintro e w21 ⟨rfl, hi, hb, hk⟩; have n0_ := Aside0.mk (KeepBut.trans (by repeat (first | (with_reducible first | exact HK.out | apply KeepBut.set_ | apply keep_drewN | apply keep_drew | apply keep_alloc) | exact HK.out)) hk (.inl rfl)); have n1_ := Aside0.mk (hb); have n2_ := Aside0.mk (hi); clear HK; clear HB; clear HI0; have HK := n0_; have HB := n1_; have HI0 := n2_; clear n0_ n1_ n2_; (try clear hb); (try clear hb2); (try clear hk); (try clear hi)))
   repeat (go_quiet (first | (go_at_call 68; (with_reducible refine (encode_Reader_Fail.calls g s0_0 s0_1 s0_2 s0_3 t328 t329 t330 t331 w0 _ ?side1 ?side2 A19.out).mono ?_); (case side1 => repeat (first | (with_reducible first | exact HI0.out | apply IsS88.alloc | apply IsS88.drewN | apply IsS88.drew | apply IsS88.set_0 | apply IsS88.set_1 | apply IsS88.set_2 | apply IsS88.set_3) | exact HI0.out)); (case side2 => repeat (first | (with_reducible first | exact HB.out | apply below_alloc | apply pw_below_drewN | apply below_drew1 | refine below_set ?_ (IsS88.ge HI0.out)) | exact HB.out)); rintro e w21 ⟨rfl, hi, hb, hk⟩; have n0_ := Aside0.mk (KeepBut.trans (by repeat (first | (with_reducible first | exact HK.out | apply KeepBut.set_ | apply keep_drewN | apply keep_drew | apply keep_alloc) | exact HK.out)) hk (.inl rfl)); have n1_ := Aside0.mk (hb); have n2_ := Aside0.mk (hi); clear HK; clear HB; clear HI0; have HK := n0_; have HB := n1_; have HI0 := n2_; clear n0_ n1_ n2_; (try clear hb); (try clear hb2); (try clear hk); (try clear hi))); try go_wp2_with (first | (go_at_call 68; (with_reducible refine (encode_Reader_Fail.calls g s0_0 s0_1 s0_2 s0_3 t328 t329 t330 t331 w0 _ ?side1 ?side2 A19.out).mono ?_); (case side1 => repeat (first | (with_reducible first | exact HI0.out | apply IsS88.alloc | apply IsS88.drewN | apply IsS88.drew | apply IsS88.set_0 | apply IsS88.set_1 | apply IsS88.set_2 | apply IsS88.set_3) | exact HI0.out)); (case side2 => repeat (first | (with_reducible first | exact HB.out | apply below_alloc | apply pw_below_drewN | apply below_drew1 | refine below_set ?_ (IsS88.ge HI0.out)) | exact HB.out)); rintro e w21 ⟨rfl, hi, hb, hk⟩; have n0_ := Aside0.mk (KeepBut.trans (by repeat (first | (with_reducible first | exact HK.out | apply KeepBut.set_ | apply keep_drewN | apply keep_drew | apply keep_alloc) | exact HK.out)) hk (.inl rfl)); have n1_ := Aside0.mk (hb); have n2_ := Aside0.mk (hi); clear HK; clear HB; clear HI0; have HK := n0_; have HB := n1_; have HI0 := n2_; clear n0_ n1_ n2_; (try clear hb); (try clear hb2); (try clear hk); (try clear hi))))
   first | go_end0 | ((try simp only [Exit.inBlock, Exit.then]); refine bodyPost_ret (results_none rfl _ _ _) rfl ?_)
   exact ⟨by first | rfl | (simp [errW_none, errW_some] <;> rfl) | (simp [*, errW_none, errW_some] <;> rfl), by repeat (first | (with_reducible first | exact HI0.out | apply IsS88.alloc | apply IsS88.drewN | apply IsS88.drew | apply IsS88.set_0 | apply IsS88.set_1 | apply IsS88.set_2 | apply IsS88.set_3) | exact HI0.out), by repeat (first | (with_reducible first | exact HB.out | apply below_alloc | apply pw_below_drewN | apply below_drew1 | refine below_set ?_ (IsS88.ge HI0.out)) | exact HB.out), by repeat (first | (with_reducible first | exact HK.out | apply KeepBut.set_ | apply keep_drewN | apply keep_drew | apply keep_alloc) | exact HK.out)⟩
 ·rw [if_neg c5] at H
  have c5b0 : (s0_3 == 0) = false := beq_eq_false_iff_ne.mpr c5
  have c5b1 : (s0_3 != 0) = true := bne_iff_ne.mpr c5
  simp only [Option.some.injEq, Prod.mk.injEq] at H
  obtain ⟨rfl, rfl, rfl, rfl⟩ := H
  obtain ⟨HGz22, hgz22⟩ := HI0.out
  have hcz22_0 := cellS88_0 HGz22
  have hcz22_1 := cellS88_1 HGz22
  have hcz22_2 := cellS88_2 HGz22
  have hcz22_3 := cellS88_3 HGz22
  have hfz22_0 := blk_frozen HGz22 0
  have hfz22_1 := blk_frozen HGz22 1
  have hfz22_2 := blk_frozen HGz22 2
  have hfz22_3 := blk_frozen HGz22 3
  clear HGz22 hgz22
  go_enter Tryd.func56, Tryd.ntmps56
  go_wp2
  repeat (go_quiet (fail); try go_wp2)
  first | go_end0 | ((try simp only [Exit.inBlock, Exit.then]); refine bodyPost_ret (results_none rfl _ _ _) rfl ?_)
  exact ⟨by first | rfl | (simp [errW_none, errW_some] <;> rfl) | (simp [*, errW_none, errW_some] <;> rfl), by repeat (first | (with_reducible first | exact HI0.out | apply IsS88.alloc | apply IsS88.drewN | apply IsS88.drew | apply IsS88.set_0 | apply IsS88.set_1 | apply IsS88.set_2 | apply IsS88.set_3) | exact HI0.out), by repeat (first | (with_reducible first | exact HB.out | apply below_alloc | apply pw_below_drewN | apply below_drew1 | refine below_set ?_ (IsS88.ge HI0.out)) | exact HB.out), by repeat (first | (with_reducible first | exact HK.out | apply KeepBut.set_ | apply keep_drewN | apply keep_drew | apply keep_alloc) | exact HK.out)⟩
def encode_Reader_Open.f (s0_0 : ByteArray) (s0_1 : Int) (s0_2 : Int) (s0_3 : Int) : Option (ByteArray × Int × Int × Int) := (encode_Reader_head.f s0_0 s0_1 s0_2 s0_3 108 (decide (s0_2 < 32)) 1).bind fun bt332 => (some (bt332.1, bt332.2.1, bt332.2.2.1, bt332.2.2.2))
set_option maxHeartbeats 8000000 in
set_option maxRecDepth 100000 in
theorem encode_Reader_Open.calls (g : Nat) (s0_0 : ByteArray) (s0_1 : Int) (s0_2 : Int) (s0_3 : Int) (r1 : ByteArray) (r2 : Int) (r3 : Int) (r4 : Int) (w0 w : World) (hI : IsS88 w0 w g s0_0 s0_1 s0_2 s0_3) (hB : Below w0.heap.size w0 w) (h : encode_Reader_Open.f s0_0 s0_1 s0_2 s0_3 = some (r1, r2, r3, r4)) :
  Calls Tryd.prog 36 #[.pointer (some ⟨g, 0, none⟩)] w fun e w' => e = .returned (.tuple #[]) ∧ IsS88 w0 w' g r1 r2 r3 r4 ∧ Below w0.heap.size w0 w' ∧ KeepBut w w' g none := by
 have HI0 := Aside0.mk hI
 have HK := Aside0.mk (KeepBut.refl w g none)
 have HL := Aside0.mk hB.size
 clear hI
 have HW0 := Aside0.mk hB.size
 have HB := Aside0.mk hB
 clear hB
 have H : ((encode_Reader_head.f s0_0 s0_1 s0_2 s0_3 108 (decide (s0_2 < 32)) 1).bind fun bt332 => (some (bt332.1, bt332.2.1, bt332.2.2.1, bt332.2.2.2))) = some (r1, r2, r3, r4) := h
 clear h
 replace H := Option.bind_eq_some_iff.mp H
 obtain ⟨⟨t332, t333, t334, t335⟩, A20, H⟩ := H
 replace H : (some (t332, t333, t334, t335)) = some (r1, r2, r3, r4) := H
 have A2 := Aside0.mk A20
 clear A20
 simp only [Option.some.injEq, Prod.mk.injEq] at H
 obtain ⟨rfl, rfl, rfl, rfl⟩ := H
 obtain ⟨HGz3, hgz3⟩ := HI0.out
 have hcz3_0 := cellS88_0 HGz3
 have hcz3_1 := cellS88_1 HGz3
 have hcz3_2 := cellS88_2 HGz3
 have hcz3_3 := cellS88_3 HGz3
 have hfz3_0 := blk_frozen HGz3 0
 have hfz3_1 := blk_frozen HGz3 1
 have hfz3_2 := blk_frozen HGz3 2
 have hfz3_3 := blk_frozen HGz3 3
 clear HGz3 hgz3
 go_enter Tryd.func36, Tryd.ntmps36
 go_wp2_with (first | ((with_reducible refine gate_callee (f := 56) rfl ?_); refine goesL_ (some 8) rfl rfl Tryd.func56 (by kernel_rfl) rfl #[.pointer (some ⟨g, 0, none⟩), .int .u8 108, .bool (decide (s0_2 < 32)), .int .i64 1] rfl (by (try simp only [List.map_toArray, List.map_cons, List.map_nil]); first | done | rfl | (simp only [List.length_drop, List.length_take]; rfl)) ?_; (with_reducible refine (encode_Reader_head.calls g s0_0 s0_1 s0_2 s0_3 108 (decide (s0_2 < 32)) 1 t332 t333 t334 t335 w0 _ ?side1 ?side2 A2.out).mono ?_); (case side1 => repeat (first | (with_reducible first | exact HI0.out | apply IsS88.alloc | apply IsS88.drewN | apply IsS88.drew | apply IsS88.set_0 | apply IsS88.set_1 | apply IsS88.set_2 | apply IsS88.set_3) | exact HI0.out)); (case side2 => repeat (first | (with_reducible first | exact HB.out | apply below_alloc | apply pw_below_drewN | apply below_drew1 | refine below_set ?_ (IsS88.ge HI0.out)) | exact HB.out)); rintro e w4 ⟨rfl, hi, hb, hk⟩; refine ⟨_, rfl, ?_⟩; have n0_ := Aside0.mk (KeepBut.trans (by repeat (first | (with_reducible first | exact HK.out | apply KeepBut.set_ | apply keep_drewN | apply keep_drew | apply keep_alloc) | exact HK.out)) hk (.inl rfl)); have n1_ := Aside0.mk (hb); have n2_ := Aside0.mk (hi); clear HK; clear HB; clear HI0; have HK := n0_; have HB := n1_; have HI0 := n2_; clear n0_ n1_ n2_; (try clear hb); (try clear hb2); (try clear hk); (try clear hi)))
 first | go_end0 | ((try simp only [Exit.inBlock, Exit.then]); refine bodyPost_ret (results_none rfl _ _ _) rfl ?_)
 exact ⟨by first | rfl | (simp [errW_none, errW_some] <;> rfl) | (simp [*, errW_none, errW_some] <;> rfl), by repeat (first | (with_reducible first | exact HI0.out | apply IsS88.alloc | apply IsS88.drewN | apply IsS88.drew | apply IsS88.set_0 | apply IsS88.set_1 | apply IsS88.set_2 | apply IsS88.set_3) | exact HI0.out), by repeat (first | (with_reducible first | exact HB.out | apply below_alloc | apply pw_below_drewN | apply below_drew1 | refine below_set ?_ (IsS88.ge HI0.out)) | exact HB.out), by repeat (first | (with_reducible first | exact HK.out | apply KeepBut.set_ | apply keep_drewN | apply keep_drew | apply keep_alloc) | exact HK.out)⟩
end Go.Proofs.YtfpopmojlmpopaaDoor.G

end
