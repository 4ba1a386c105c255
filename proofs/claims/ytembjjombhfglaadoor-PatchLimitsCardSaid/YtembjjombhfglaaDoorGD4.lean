import Derived.Test.YtembjjombhfglaaDoorGD3
import Derived.Test.YtembjjombhfglaaDoorGE1
import Derived.Test.YtembjjombhfglaaDoorWB
import Derived.Lib.AppendZerosOnto
import Derived.Lib.Walk
namespace Go.Proofs.YtembjjombhfglaaDoor.G
open Go.RowKit Go.Proofs.YtembjjombhfglaaDoorW.PrintWords Go.Proofs.YtembjjombhfglaaDoorW.PrintLast Go.Proofs.YtembjjombhfglaaDoorW.PrintMore
set_option linter.unusedVariables false
set_option linter.unusedSimpArgs false
set_option maxHeartbeats 4000000 in
set_option maxRecDepth 100000 in
theorem grow_calls (n : Nat) (hn : n ≤ 140737488355328) (w : World) : Calls Tryd.prog 75 #[.slice none 0 0, .int .i64 n] w fun e w' => ∃ v, e = .returned v ∧ Kd.R (Kd.int .u8) 5 w' w.heap.size (fun _ => True) v [] ∧ Below w.heap.size w w' := by
 by_cases h0 : n = 0
 ·
  subst h0
  go_enter Tryd.func75, Tryd.ntmps75
  go_wp2
  go_ret
  exact ⟨_, rfl, Kd.R_nil _ _ _ _ _, Below.refl _ _⟩
 ·
  obtain ⟨v1, w1, hr, hR, hg, hat⟩ := Kd.R_zeros_run (P := Tryd.prog) (Kd.int .u8) (W := w) w.heap.size 26 3 26 5 (.int .u8 0) 1 Tryd.underlying26 Tryd.underlying3 info5 rfl (by decide) (by decide) (.slice none 0 0) [] 0 (ok := fun _ => True) rfl (fun _ _ => trivial) (Kd.R_nil _ _ _ _ _) .i64 (n : Int) (by omega) (by simp; omega) (Nat.le_refl _)
  have hB : Below w.heap.size w w1 := (Below.refl _ w).grown hg (Nat.le_refl _) (fun k hk => by simp [Value.ownBlock] at hk)
  obtain ⟨A, c, rfl, hc1, hC⟩ := Kd.R_reads hR
  simp only [List.nil_append, List.length_replicate, Int.toNat_natCast] at hr hc1 hR
  have h3 : wrap64 ((n : Int) - 0) = (n : Int) := by unfold wrap64; omega
  have h3' : wrap64 ((n : Int)) = (n : Int) := by unfold wrap64; omega
  have h1 : ¬ ((n : Int) < 0) := by omega
  have h4 : (n : Int) > 0 := by omega
  go_enter Tryd.func75, Tryd.ntmps75
  go_wp2_with (at_builtin; refine Lib.wpList_append_run _ rfl _ _ _ _ rfl _ _ rfl rfl _ _ hr ?_)
  go_ret
  exact ⟨_, rfl, Kd.R_take hR (Nat.zero_le _), hB⟩
set_option maxHeartbeats 8000000 in
set_option maxRecDepth 100000 in
theorem concat_calls (A : Option Addr) (c : Nat) (l : List Int) (w : World) (hr : Kd.C (Kd.int .u8) w A l.length l) (hc : l.length ≤ c) (hn : l.length ≤ 70368744177664) (bb : Nat)
  (hb0 : w.cell? ⟨bb, 0, none⟩ = some (.slice none 0 0)) (hb1 : w.cell? ⟨bb, 1, none⟩ = some (.slice A l.length c)) :
  Calls Tryd.prog 64 #[.slice (some ⟨bb, 0, none⟩) 2 2] w fun e w' => ∃ v, e = .returned v ∧ Kd.R (Kd.int .u8) 5 w' w.heap.size (fun _ => True) v l ∧ Below w.heap.size w w' := by
 have HR := Lib.hid hr
 have HC := Lib.hid hc
 clear hr hc
 have hL : wrap64 ((0 : Int) + (l.length : Int)) = (l.length : Int) := by unfold wrap64; omega
 go_enter Tryd.func64, Tryd.ntmps64
 go_wp2
 go_loopw [3, 11] (fun v3 v11 wr => w = wr ∧ ((v11 = .int .i64 0 ∧ v3 = .int .i64 0) ∨ (v11 = .int .i64 1 ∧ v3 = .int .i64 0) ∨ (v11 = .int .i64 2 ∧ v3 = .int .i64 l.length))) (fun _ v11 _ => 2 - (intOf v11).toNat)
 case atStart => exact ⟨rfl, .inl ⟨rfl, rfl⟩⟩
 case round =>
  obtain ⟨rfl, ⟨rfl, rfl⟩ | ⟨rfl, rfl⟩ | ⟨rfl, rfl⟩⟩ := hrel
  ·
   go_wp2
   go_roundw
   case rel => exact ⟨trivial, .inr (.inl ⟨rfl, rfl⟩)⟩
   case measure => simp [intOf]
  ·
   go_wp2
   go_roundw
   case rel => exact ⟨trivial, .inr (.inr ⟨rfl, rfl⟩)⟩
   case measure => simp [intOf]
  ·
   go_wp2_with fail
   refine (grow_calls l.length (by omega) _).mono ?_
   rintro e w4 ⟨v6, rfl, hR6, hB6⟩
   have HB0 := Lib.hid hb0
   have HB1 := Lib.hid hb1
   have HR6 := Lib.hid hR6
   have HB6 := Lib.hid hB6
   clear hR6 hB6 hb0 hb1
   go_wp2_with fail
   go_loopw [6, 27] (fun v6 v27 w5 => Below w.heap.size w w5 ∧ ((v27 = .int .i64 0 ∧ Kd.R (Kd.int .u8) 5 w5 w.heap.size (fun _ => True) v6 []) ∨ (v27 = .int .i64 1 ∧ Kd.R (Kd.int .u8) 5 w5 w.heap.size (fun _ => True) v6 []) ∨ (v27 = .int .i64 2 ∧ Kd.R (Kd.int .u8) 5 w5 w.heap.size (fun _ => True) v6 l))) (fun _ v27 _ => 2 - (intOf v27).toNat)
   case atStart => exact ⟨HB6.out, .inl ⟨rfl, HR6.out⟩⟩
   case round =>
    clear HR6 HB6
    obtain ⟨hB5, ⟨rfl, hR5⟩ | ⟨rfl, hR5⟩ | ⟨rfl, hR5⟩⟩ := hrel
    ·
     have hcell : wr.cell? ⟨bb, 0, none⟩ = some (.slice none 0 0) := pw_cell_below hB5 HB0.out
     have HR5 := Lib.hid hR5
     have HB5 := Lib.hid hB5
     clear hR5 hB5
     go_wp2_with (((with_reducible refine gate_builtin (b := .append) (xs := #[.tmp 31, .tmp 32]) rfl ?_); at_builtin; refine Kd.R_append_rows (Kd.int .u8) (w0 := w) w.heap.size rfl (.tmp 31) (.tmp 32) 26 5 (.int .u8 0) 1 rfl Tryd.underlying26 info5 rfl (by decide) (by omega) u6 ([] : List Int) ([] : List Int) none 0 0 (fun _ => True) (fun _ => False) rfl rfl HR5.out (Kd.C_nil _ _) (fun _ _ h => h) (fun _ h => h.elim) (fun _ _ => trivial) HB5.out HB5.out.size (by simp only [List.length_nil]; omega) ?_; intro v1 w6 ho hb hg hat; have HO2 := Lib.hid ho; have HB2 := Lib.hid hb; clear ho hb hg hat))
     go_roundw
     case rel => exact ⟨HB2.out, .inr (.inl ⟨rfl, HO2.out⟩)⟩
     case measure => simp [intOf]
    ·
     have hcell : wr.cell? ⟨bb, 1, none⟩ = some (.slice A l.length c) := pw_cell_below hB5 HB1.out
     have HR5 := Lib.hid hR5
     have HB5 := Lib.hid hB5
     clear hR5 hB5
     go_wp2_with (((with_reducible refine gate_builtin (b := .append) (xs := #[.tmp 31, .tmp 32]) rfl ?_); at_builtin; refine Kd.R_append_rows (Kd.int .u8) (w0 := w) w.heap.size rfl (.tmp 31) (.tmp 32) 26 5 (.int .u8 0) 1 rfl Tryd.underlying26 info5 rfl (by decide) (by omega) u6 ([] : List Int) l A l.length c (fun _ => True) (fun _ => False) rfl rfl HR5.out (Kd.C_below HR.out HB5.out) (fun _ _ h => h) (fun _ h => h.elim) (fun _ _ => trivial) HB5.out HB5.out.size (by simp only [List.length_nil]; omega) ?_; intro v1 w6 ho hb hg hat; have HO2 := Lib.hid ho; have HB2 := Lib.hid hb; clear ho hb hg hat))
     go_roundw
     case rel => exact ⟨HB2.out, .inr (.inr ⟨rfl, HO2.out⟩)⟩
     case measure => simp [intOf]
    ·
     go_wp2_with fail
     go_ret
     exact ⟨_, rfl, hR5, hB5⟩
end Go.Proofs.YtembjjombhfglaaDoor.G
