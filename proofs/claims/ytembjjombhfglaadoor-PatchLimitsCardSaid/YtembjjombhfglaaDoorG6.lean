import Derived.Test.YtembjjombhfglaaDoorG0
import Derived.Test.YtembjjombhfglaaDoorG5
namespace Go.Proofs.YtembjjombhfglaaDoor.G
open Go.RowKit Go.Proofs.YtembjjombhfglaaDoorW.PrintWords Go.Proofs.YtembjjombhfglaaDoorW.PrintLast Go.Proofs.YtembjjombhfglaaDoorW.PrintMore
attribute [local go_sem] max2_int min2_int max_two min_two max_three min_three max_four min_four
set_option linter.unusedVariables false
set_option linter.unusedSimpArgs false
def tree_Path.l0 : Nat → ByteArray → List ByteArray → Int → Int → Option (Bool)
 | 0, _, _, _, _ => none
 | k + 1, x0, x6, x7, x8 => if x8 < x7 then (if 0 ≤ x8 then (if x8 < (x6.length : Int) then (if (rdOf ByteArray.empty x6 x8).toList = ([] : List UInt8) then (some false) else (if (rdOf ByteArray.empty x6 x8).toList = ([46] : List UInt8) then (some false) else (if (rdOf ByteArray.empty x6 x8).toList = ([46, 46] : List UInt8) then (some false) else (tree_Path.l0 k x0 x6 x7 (wrap64 (x8 + 1)))))) else (none)) else (none)) else (if (x0.size : Int) ≤ 200 then ((conv_b x0).bind fun t189 => ((slices_ContainsFunc_byte_byte_57.f k t189).bind fun t192 => (some (!t192)))) else (some false))
def tree_Path.f (k : Nat) (a0 : ByteArray) : Option (Bool) := (strings_Split.f k a0 (⟨#[47]⟩ : ByteArray)).bind fun t185 => (tree_Path.l0 k a0 t185 (t185.length : Int) 0)
set_option maxHeartbeats 8000000 in
set_option maxRecDepth 100000 in
theorem tree_Path.calls (k : Nat) (a0 : ByteArray) (r : Bool) (w : World) (h : tree_Path.f k a0 = some r) :
  Calls Tryd.prog 35 #[.string a0] w fun e w' => e = .returned (.bool r) ∧ Below w.heap.size w w' := by
 have HB := Aside0.mk (Below.refl w.heap.size w)
 have H : ((strings_Split.f k a0 (⟨#[47]⟩ : ByteArray)).bind fun t185 => (tree_Path.l0 k a0 t185 (t185.length : Int) 0)) = some r := h
 clear h
 replace H := Option.bind_eq_some_iff.mp H
 obtain ⟨t185, A20, H⟩ := H
 replace H : (tree_Path.l0 k a0 t185 (t185.length : Int) 0) = some r := H
 have A2 := Aside0.mk A20
 clear A20
 have H' := Aside0.mk H
 clear H
 go_enter Tryd.func35, Tryd.ntmps35
 go_wp2_with (first | ((with_reducible refine gate_callee (f := 55) rfl ?_); refine goesL_ (some 6) rfl rfl Tryd.func55 (by kernel_rfl) rfl #[.string a0, .string (⟨#[47]⟩ : ByteArray)] rfl (by (try simp only [List.map_toArray, List.map_cons, List.map_nil]); first | done | rfl | (simp only [List.length_drop, List.length_take]; rfl)) ?_; (with_reducible refine (strings_Split.calls k a0 (⟨#[47]⟩ : ByteArray) t185 _ A2.out).mono ?_); rintro e w3 ⟨v186, rfl, ho0, hb⟩; refine ⟨_, rfl, ?_⟩; have n0_ := Aside0.mk (Kd.R_lower ho0 (zK (by repeat (first | (with_reducible first | exact HB.out | apply zC | apply zA | apply zB) | exact HB.out)))); have n1_ := Aside0.mk (zL (by repeat (first | (with_reducible first | exact HB.out | apply zC | apply zA | apply zB) | exact HB.out)) hb); clear HB; have HO187 := n0_; have HB := n1_; clear n0_ n1_; (try clear hb); (try clear hb2); (try clear hk); (try clear hi); (try clear ho0); obtain ⟨Ao4, co4, eo4⟩ := Kd.R_slice HO187.out; subst eo4))
 go_loopg [8] k (fun kq v8 w' => ∃ (x8_1 : Int), v8 = .int .i64 x8_1 ∧ Aside0 (tree_Path.l0 kq a0 t185 (t185.length : Int) x8_1 = some r) ∧ Aside0 (kq ≤ k) ∧ Aside0 (Kd.R Kd.string 9 w' w.heap.size (fun _ => True) (.slice Ao4 t185.length co4) t185) ∧ Aside0 (Below w.heap.size w w'))
 case atStart => exact ⟨(0), (by first | rfl | (simp; done) | (simp [*]; done)), H', ⟨Nat.le_refl _⟩, ⟨by (with_reducible repeat (first | apply Kd.R_alloc | apply Kd.R_drewN | apply Kd.R_drew)); exact HO187.out⟩, ⟨by repeat (first | (with_reducible first | exact HB.out | apply zC | apply zA | apply zB) | exact HB.out)⟩⟩
 case round =>
  clear H'
  try clear p2
  try clear c3
  obtain ⟨x8_1, rfl, HA, HK1, HO_6, HB⟩ := hrel
  cases gk with
  | zero => exact absurd HA.out (by simp [tree_Path.l0])
  | succ k1 =>
   have H := HA.out
   clear HA
   simp only [tree_Path.l0] at H
   by_cases c5 : x8_1 < (t185.length : Int)
   ·
    rw [if_pos c5] at H
    have c5b0 : decide (x8_1 < (t185.length : Int)) = true := decide_eq_true c5
    clear c5
    by_cases c6 : 0 ≤ x8_1
    ·
     rw [if_pos c6] at H
     have c6b0 : decide (0 ≤ x8_1) = true := decide_eq_true c6
     clear c6
     by_cases c7 : x8_1 < (t185.length : Int)
     ·
      rw [if_pos c7] at H
      have c7b0 : decide (x8_1 < (t185.length : Int)) = true := decide_eq_true c7
      clear c7
      by_cases c8 : (rdOf ByteArray.empty t185 x8_1).toList = ([] : List UInt8)
      ·
       rw [if_pos c8] at H
       have c8b0 : ((rdOf ByteArray.empty t185 x8_1).toList == ([] : List UInt8)) = true := beq_iff_eq.mpr c8
       have c8b1 : ((rdOf ByteArray.empty t185 x8_1).toList != ([] : List UInt8)) = false := bne_eq_false_iff_eq.mpr c8
       clear c8
       obtain rfl := Option.some.inj H
       have p188 : 0 ≤ (x8_1 : Int) := of_decide_eq_true (by first | (with_reducible assumption) | assumption)
       have q188 : x8_1 < (t185.length : Int) := of_decide_eq_true (by first | (with_reducible assumption) | assumption)
       obtain ⟨ad188, e188, hx188_0⟩ := Kd.at_string (Kd.R_reads' HO_6.out).2.2 x8_1 p188 q188
       cases e188
       replace p188 := eq_true p188
       replace q188 := eq_true q188
       go_wp2
       go_ret
       exact ⟨by first | rfl | (simp [zO, zN] <;> rfl) | (simp [*, zO, zN] <;> rfl), by repeat (first | (with_reducible first | exact HB.out | apply zC | apply zA | apply zB) | exact HB.out)⟩
      ·
       rw [if_neg c8] at H
       have c8b0 : ((rdOf ByteArray.empty t185 x8_1).toList == ([] : List UInt8)) = false := beq_eq_false_iff_ne.mpr c8
       have c8b1 : ((rdOf ByteArray.empty t185 x8_1).toList != ([] : List UInt8)) = true := bne_iff_ne.mpr c8
       by_cases c9 : (rdOf ByteArray.empty t185 x8_1).toList = ([46] : List UInt8)
       ·
        rw [if_pos c9] at H
        have c9b0 : ((rdOf ByteArray.empty t185 x8_1).toList == ([46] : List UInt8)) = true := beq_iff_eq.mpr c9
        have c9b1 : ((rdOf ByteArray.empty t185 x8_1).toList != ([46] : List UInt8)) = false := bne_eq_false_iff_eq.mpr c9
        clear c9
        obtain rfl := Option.some.inj H
        have p188 : 0 ≤ (x8_1 : Int) := of_decide_eq_true (by first | (with_reducible assumption) | assumption)
        have q188 : x8_1 < (t185.length : Int) := of_decide_eq_true (by first | (with_reducible assumption) | assumption)
        obtain ⟨ad188, e188, hx188_0⟩ := Kd.at_string (Kd.R_reads' HO_6.out).2.2 x8_1 p188 q188
        cases e188
        replace p188 := eq_true p188
        replace q188 := eq_true q188
        go_wp2
        go_ret
        exact ⟨by first | rfl | (simp [zO, zN] <;> rfl) | (simp [*, zO, zN] <;> rfl), by repeat (first | (with_reducible first | exact HB.out | apply zC | apply zA | apply zB) | exact HB.out)⟩
       ·
        rw [if_neg c9] at H
        have c9b0 : ((rdOf ByteArray.empty t185 x8_1).toList == ([46] : List UInt8)) = false := beq_eq_false_iff_ne.mpr c9
        have c9b1 : ((rdOf ByteArray.empty t185 x8_1).toList != ([46] : List UInt8)) = true := bne_iff_ne.mpr c9
        by_cases c10 : (rdOf ByteArray.empty t185 x8_1).toList = ([46, 46] : List UInt8)
        ·
         rw [if_pos c10] at H
         have c10b0 : ((rdOf ByteArray.empty t185 x8_1).toList == ([46, 46] : List UInt8)) = true := beq_iff_eq.mpr c10
         have c10b1 : ((rdOf ByteArray.empty t185 x8_1).toList != ([46, 46] : List UInt8)) = false := bne_eq_false_iff_eq.mpr c10
         clear c10
         obtain rfl := Option.some.inj H
         have p188 : 0 ≤ (x8_1 : Int) := of_decide_eq_true (by first | (with_reducible assumption) | assumption)
         have q188 : x8_1 < (t185.length : Int) := of_decide_eq_true (by first | (with_reducible assumption) | assumption)
         obtain ⟨ad188, e188, hx188_0⟩ := Kd.at_string (Kd.R_reads' HO_6.out).2.2 x8_1 p188 q188
         cases e188
         replace p188 := eq_true p188
         replace q188 := eq_true q188
         go_wp2
         go_ret
         exact ⟨by first | rfl | (simp [zO, zN] <;> rfl) | (simp [*, zO, zN] <;> rfl), by repeat (first | (with_reducible first | exact HB.out | apply zC | apply zA | apply zB) | exact HB.out)⟩
        ·
         rw [if_neg c10] at H
         have c10b0 : ((rdOf ByteArray.empty t185 x8_1).toList == ([46, 46] : List UInt8)) = false := beq_eq_false_iff_ne.mpr c10
         have c10b1 : ((rdOf ByteArray.empty t185 x8_1).toList != ([46, 46] : List UInt8)) = true := bne_iff_ne.mpr c10
         have H' := Aside0.mk H
         clear H
         have p188 : 0 ≤ (x8_1 : Int) := of_decide_eq_true (by first | (with_reducible assumption) | assumption)
         have q188 : x8_1 < (t185.length : Int) := of_decide_eq_true (by first | (with_reducible assumption) | assumption)
         obtain ⟨ad188, e188, hx188_0⟩ := Kd.at_string (Kd.R_reads' HO_6.out).2.2 x8_1 p188 q188
         cases e188
         replace p188 := eq_true p188
         replace q188 := eq_true q188
         go_wp2
         go_roundg k1
         case measure => have := HK1.out; omega
         case rel => exact ⟨(wrap64 (x8_1 + 1)), (by first | rfl | (simp; done) | (simp [*]; done)), H', ⟨by have := HK1.out; omega⟩, ⟨by (with_reducible repeat (first | apply Kd.R_alloc | apply Kd.R_drewN | apply Kd.R_drew)); exact HO_6.out⟩, ⟨by repeat (first | (with_reducible first | exact HB.out | apply zC | apply zA | apply zB) | exact HB.out)⟩⟩
     ·
      rw [if_neg c7] at H
      exact absurd H (by simp)
    ·
     rw [if_neg c6] at H
     exact absurd H (by simp)
   ·
    rw [if_neg c5] at H
    have c5b0 : decide (x8_1 < (t185.length : Int)) = false := decide_eq_false c5
    clear c5
    by_cases c11 : (a0.size : Int) ≤ 200
    ·
     rw [if_pos c11] at H
     have c11b0 : decide ((a0.size : Int) ≤ 200) = true := decide_eq_true c11
     have c11b1 : decide (a0.size ≤ 200) = true := decide_eq_true (by omega)
     clear c11
     replace H := Option.bind_eq_some_iff.mp H
     obtain ⟨t189, A120, H⟩ := H
     replace H : ((slices_ContainsFunc_byte_byte_57.f k1 t189).bind fun t192 => (some (!t192))) = some r := H
     have A12 := Aside0.mk A120
     clear A120
     replace H := Option.bind_eq_some_iff.mp H
     obtain ⟨t192, A130, H⟩ := H
     replace H : (some (!t192)) = some r := H
     have A13 := Aside0.mk A130
     clear A130
     obtain rfl := Option.some.inj H
     go_wp2_with (first | ((with_reducible refine gate_conv (src := 9) (dst := 26) rfl ?_); refine conv_goesG rfl ?hw rfl a0 (by first | rfl | (simp only [Act.eval]; rfl)) Tryd.underlying9 Tryd.underlying26 Tryd.underlying5 A12.out ?_; (case hw => first | rfl | (go_simp; done) | (simp [Region.wanted, yielded, *]; done)); intro v190 w14 ho0 hb; have n0_ := Aside0.mk (Kd.R_below (by (with_reducible repeat (first | apply Kd.R_alloc | apply Kd.R_drewN | apply Kd.R_drew)); exact HO_6.out) hb); have n1_ := Aside0.mk (Kd.V_lower (Kd.V_mono (ok' := fun k_ => some k_ ≠ (.slice Ao4 t185.length co4 : Value).ownBlock) ho0 (fun k_ hk_ => (Kd.fresh' (Kd.R_lt (by (with_reducible repeat (first | apply Kd.R_alloc | apply Kd.R_drewN | apply Kd.R_drew)); exact HO_6.out)) k_ hk_))) (zK (by repeat (first | (with_reducible first | exact HB.out | apply zC | apply zA | apply zB) | exact HB.out)))); have n2_ := Aside0.mk (zL (by repeat (first | (with_reducible first | exact HB.out | apply zC | apply zA | apply zB) | exact HB.out)) hb); clear HO_6; clear HB; have HO_6 := n0_; have HO191 := n1_; have HB := n2_; clear n0_ n1_ n2_; (try clear hb); (try clear hb2); (try clear hk); (try clear hi); (try clear ho0); obtain ⟨Ao15, co15, eo15⟩ := Kd.V_slice HO191.out; subst eo15) | (go_at_call 56; (with_reducible refine (slices_ContainsFunc_byte_byte_57.calls k1 _ _ t189 t192 _ ?side1 ?side2 A13.out).mono ?_); (case side1 => repeat (first | exact (Kd.V_reads' HO191.out).2.2 | (with_reducible refine Kd.C_alloc ?_ _) | (with_reducible refine Kd.C_drewN ?_ _) | (with_reducible refine Kd.C_drew ?_))); (case side2 => exact (Kd.V_reads' HO191.out).2.1); rintro e w' ⟨rfl, ⟨nd, rfl⟩⟩))
     go_ret
     exact ⟨by first | rfl | (simp [zO, zN] <;> rfl) | (simp [*, zO, zN] <;> rfl), by repeat (first | (with_reducible first | exact HB.out | apply zC | apply zA | apply zB) | exact HB.out)⟩
    ·
     rw [if_neg c11] at H
     have c11b0 : decide ((a0.size : Int) ≤ 200) = false := decide_eq_false c11
     have c11b1 : decide (a0.size ≤ 200) = false := decide_eq_false (by omega)
     clear c11
     obtain rfl := Option.some.inj H
     go_wp2
     go_ret
     exact ⟨by first | rfl | (simp [zO, zN] <;> rfl) | (simp [*, zO, zN] <;> rfl), by repeat (first | (with_reducible first | exact HB.out | apply zC | apply zA | apply zB) | exact HB.out)⟩
end Go.Proofs.YtembjjombhfglaaDoor.G
