import Derived.Test.YtembjjombhfglaaDoorGE1
import Derived.Test.YtembjjombhfglaaDoorGX
import Derived.Lib.Hide
import Derived.LoopTactic
import Derived.StillTailTactics
import Derived.Deep.DeepMust
import Derived.WalkSmall
import Derived.Test.YtembjjombhfglaaDoorGD2
namespace Go.Proofs.YtembjjombhfglaaDoor.G
open Go.RowKit Go.Proofs.YtembjjombhfglaaDoorW.PrintWords Go.Proofs.YtembjjombhfglaaDoorW.PrintLast Go.Proofs.YtembjjombhfglaaDoorW.PrintMore
attribute [local go_sem] max2_int min2_int max_two min_two max_three min_three max_four min_four
set_option linter.unusedVariables false
set_option linter.unusedSimpArgs false
def tkN (n x : Int) (i : Nat) : Int := Go.bits .or .u64 n (IntKind.u64.wrap (IntKind.u64.wrap (Go.bits .and .u8 x 127) * 2 ^ (7 * i)))
def takeL (l : List Int) : Nat → Nat → Int → Int × Nat × Int
 | 0, _, _ => if 10 ≤ l.length then (0, 0, 3) else (0, 0, 2)
 | k + 1, i, n => if rd l (i : Int) ≥ 128 then takeL l k (i + 1) (tkN n (rd l (i : Int)) i)
  else if (0 < i ∧ rd l (i : Int) = 0) ∨ (i = 9 ∧ rd l (i : Int) > 1) then (0, 0, 3) else (tkN n (rd l (i : Int)) i, i + 1, 0)
def takeF (l : List Int) : Int × Nat × Int := takeL l (min l.length 10) 0 0
theorem takeL_le (l : List Int) : ∀ (k i : Nat) (n : Int), i + k ≤ l.length → (takeL l k i n).2.1 ≤ l.length
 | 0, i, n, h => by unfold takeL; split <;> simp
 | k + 1, i, n, h => by
  unfold takeL
  split
  · exact takeL_le l k (i + 1) _ (by omega)
  ·
   split
   · simp
   · simp; omega
theorem takeF_le (l : List Int) : (takeF l).2.1 ≤ l.length := takeL_le l _ _ _ (by omega)
set_option maxHeartbeats 8000000 in
set_option maxRecDepth 100000 in
theorem take_calls (A : Option Addr) (c : Nat) (l : List Int) (w : World) (hr : Kd.C (Kd.int .u8) w A l.length l) (hc : l.length ≤ c) :
  Calls Tryd.prog 61 #[.slice A l.length c] w fun e w' => e = .returned (.tuple #[.int .u64 (takeF l).1, .int .i64 ((takeF l).2.1 : Nat), .int .i64 (takeF l).2.2]) ∧ Below w.heap.size w w' := by
 obtain ⟨i05, hi05, _, hsz5, _⟩ := info_parts info5
 obtain ⟨m, hm⟩ : ∃ m, m = min l.length 10 := ⟨_, rfl⟩
 have hcut := cut_to (P := Tryd.prog) 26 5 .i64 Tryd.underlying26 hi05 A l.length c (m : Int) (by omega) (by omega) hc
 rw [Int.toNat_natCast] at hcut
 have hmn : (if (10 : Int) < (l.length : Int) then 10 else (l.length : Int)) = (m : Int) := by split <;> omega
 have HR := Lib.hid hr
 have HM := Lib.hid hm
 clear hi05 hsz5 hr hm
 go_enter Tryd.func61, Tryd.ntmps61
 go_wp2_with fail
 go_loopw [5, 14] (fun v5 v14 wr => ∃ (i : Nat) (n : Int), i ≤ m ∧ v5 = .int .u64 n ∧ v14 = .int .i64 (i : Int) ∧ Hid (takeL l (m - i) i n = takeF l) ∧ Hid (Below w.heap.size w wr)) (fun _ v14 _ => m - (intOf v14).toNat)
 case atStart => exact ⟨0, 0, by omega, rfl, rfl, Lib.hid (by rw [HM.out]; rfl), Lib.hid (Below.refl _ _)⟩
 case round =>
  obtain ⟨i, n, hi, rfl, rfl, HT, HB⟩ := hrel
  by_cases hlt : i < m
  ·
   obtain ⟨ad, rfl, hcell⟩ := Kd.at_int HR.out (i : Int) (by omega) (by have := HM.out; omega)
   replace hcell := pw_cell_below HB.out hcell
   rw [Int.toNat_natCast] at hcell
   obtain ⟨x, hx⟩ : ∃ x, x = rd l (i : Int) := ⟨_, rfl⟩
   rw [← hx] at hcell
   have HX := Lib.hid hx
   have hT := HT.out
   rw [show m - i = (m - (i + 1)) + 1 by omega] at hT
   unfold takeL at hT
   rw [← hx] at hT
   have HT2 := Lib.hid hT
   have hi10 : i < 10 := by have := HM.out; omega
   clear hx hT HT
   by_cases h128 : (128 : Int) ≤ x
   ·
    go_wp2_with fail
    go_roundw
    case rel => exact ⟨i + 1, tkN n x i, by omega, rfl, by go_num, Lib.hid (by have h := HT2.out; rw [if_pos h128] at h; exact h), HB⟩
    case measure => simp [intOf]; omega
   ·
    by_cases hbad : (0 < i ∧ x = 0) ∨ (i = 9 ∧ x > 1)
    ·
     have h := HT2.out
     rw [if_neg h128, if_pos hbad] at h
     have HE := Lib.hid h
     clear h HT2
     by_cases h0 : 0 < i
     ·
      by_cases hx0 : x = 0
      ·
       clear hbad
       go_wp2_with fail
       go_ret3
       exact ⟨by rw [← HE.out]; rfl, HB.out⟩
      ·
       have h9 : i = 9 := by rcases hbad with h | h; exact absurd h.2 hx0; exact h.1
       have hx1 : 1 < x := by rcases hbad with h | h; exact absurd h.2 hx0; exact h.2
       clear hbad
       have hb9 : ((i : Int) == 9) = true := by simp [h9]
       have HH9 := Lib.hid h9
       clear h9
       go_wp2_with fail
       go_ret3
       exact ⟨by rw [← HE.out]; rfl, HB.out⟩
     · exact absurd hbad (by omega)
    ·
     have h := HT2.out
     rw [if_neg h128, if_neg hbad] at h
     have HE := Lib.hid h
     clear h HT2
     by_cases h0 : 0 < i
     ·
      have hx0 : ¬ x = 0 := fun h => hbad (.inl ⟨h0, h⟩)
      by_cases h9 : i = 9
      ·
       have hx1 : ¬ 1 < x := fun h => hbad (.inr ⟨h9, h⟩)
       clear hbad
       have hb9 : ((i : Int) == 9) = true := by simp [h9]
       have HH9 := Lib.hid h9
       clear h9
       go_wp2_with fail
       go_ret3
       exact ⟨by rw [← HE.out]; rfl, HB.out⟩
      ·
       clear hbad
       go_wp2_with fail
       go_ret3
       exact ⟨by rw [← HE.out]; rfl, HB.out⟩
     ·
      have hb0 : decide ((0 : Int) < (i : Int)) = false := by simp; omega
      have hb1 : decide (0 < i) = false := by simp; omega
      have hb9 : ((i : Int) == 9) = false := by simp; omega
      have HH0 := Lib.hid h0
      clear hbad h0
      go_wp2_with fail
      go_ret3
      exact ⟨by rw [← HE.out]; rfl, HB.out⟩
  ·
   have him : i = m := by omega
   have h := HT.out
   rw [him, Nat.sub_self] at h
   unfold takeL at h
   have HE := Lib.hid h
   clear h HT
   have hnl : ¬ ((i : Int) < (m : Int)) := by omega
   by_cases h10 : 10 ≤ l.length
   ·
    have h10' : (10 : Int) ≤ (l.length : Int) := by omega
    go_wp2_with fail
    go_ret3
    exact ⟨by have h := HE.out; rw [if_pos h10] at h; rw [← h]; rfl, HB.out⟩
   ·
    have h10' : ¬ (10 : Int) ≤ (l.length : Int) := by omega
    go_wp2_with fail
    go_ret3
    exact ⟨by have h := HE.out; rw [if_neg h10] at h; rw [← h]; rfl, HB.out⟩
end Go.Proofs.YtembjjombhfglaaDoor.G
