import Derived.Test.YtembjjombhfglaaDoorG0
import Derived.Test.YtembjjombhfglaaDoorG2
import Derived.Test.YtembjjombhfglaaDoorG6
import Derived.Test.YtembjjombhfglaaDoorGE1
import Derived.Test.YtembjjombhfglaaDoorGE3
import Derived.Test.YtembjjombhfglaaDoorGE8
namespace Go.Proofs.YtembjjombhfglaaDoor.G
open Go.RowKit Go.Proofs.YtembjjombhfglaaDoorW.PrintWords Go.Proofs.YtembjjombhfglaaDoorW.PrintLast Go.Proofs.YtembjjombhfglaaDoorW.PrintMore
attribute [local go_sem] max2_int min2_int max_two min_two max_three min_three max_four min_four
set_option linter.unusedVariables false
set_option linter.unusedSimpArgs false
attribute [local go_sem high] eqA50
def grapevineref10_Same.l0 : Nat → List (S50) → List (S50) → Int → Option (Bool)
 | 0, _, _, _ => none
 | k + 1, x0, x1, x5 => if x5 < (x0.length : Int) then (if 0 ≤ x5 then (if x5 < (x1.length : Int) then (if (!((((zQ x0 x5).f0).toList) == (((zQ x1 x5).f0).toList)) || (!((((zQ x0 x5).f1).toList) == (((zQ x1 x5).f1).toList)))) = true then (some false) else (grapevineref10_Same.l0 k x0 x1 (wrap64 (x5 + 1)))) else (none)) else (none)) else (some true)
def grapevineref10_Same.f (k : Nat) (l0 : List (S50)) (l1 : List (S50)) : Option (Bool) := if (l0.length : Int) = (l1.length : Int) then (grapevineref10_Same.l0 k l0 l1 0) else (some false)
set_option maxHeartbeats 8000000 in
set_option maxRecDepth 100000 in
theorem grapevineref10_Same.calls (k : Nat) (A0 : Option Addr) (c0 : Nat) (l0 : List (S50)) (A1 : Option Addr) (c1 : Nat) (l1 : List (S50)) (r : Bool) (w : World) (hr0 : Kd.C k50 w A0 l0.length l0) (hc0 : l0.length ≤ c0) (hr1 : Kd.C k50 w A1 l1.length l1) (hc1 : l1.length ≤ c1) (h : grapevineref10_Same.f k l0 l1 = some r) :
  Calls Tryd.prog 17 #[.slice A0 l0.length c0, .slice A1 l1.length c1] w fun e w' => e = .returned (.bool r) ∧ Drawn0 w w' := by
 have hu50 := Tryd.underlying50
 have HR0 := Aside0.mk hr0
 have HC0 := Aside0.mk hc0
 clear hr0 hc0
 have HR1 := Aside0.mk hr1
 have HC1 := Aside0.mk hc1
 clear hr1 hc1
 have H : (if (l0.length : Int) = (l1.length : Int) then (grapevineref10_Same.l0 k l0 l1 0) else (some false)) = some r := h
 clear h
 by_cases c3 : (l0.length : Int) = (l1.length : Int)
 ·
  rw [if_pos c3] at H
  have c3b0 : ((l0.length : Int) == (l1.length : Int)) = true := beq_iff_eq.mpr c3
  have c3b1 : ((l0.length : Int) != (l1.length : Int)) = false := bne_eq_false_iff_eq.mpr c3
  have c3b2 : (l0.length == l1.length) = true := by first | simpa using c3 | (simp at c3 ⊢; omega)
  clear c3
  have H' := Aside0.mk H
  clear H
  go_enter Tryd.func17, Tryd.ntmps17
  go_wp2
  repeat (go_quiet (fail); try go_wp2)
  go_loopg [5] k (fun kq v5 w' => ∃ (x5_1 : Int), v5 = .int .i64 x5_1 ∧ Aside0 (grapevineref10_Same.l0 kq l0 l1 x5_1 = some r) ∧ Aside0 (kq ≤ k) ∧ Drawn0 w w')
  case atStart => exact ⟨(0), (by first | rfl | (simp; done) | (simp [*]; done)), H', ⟨Nat.le_refl _⟩, by repeat (first | exact Drawn0.refl _ | apply Drawn0.step)⟩
  case round =>
   clear H'
   try clear c1
   try clear p2
   try clear c3
   try clear c3b0
   try clear c3b1
   try clear c3b2
   obtain ⟨x5_1, rfl, HA, HK1, ⟨m1, rfl⟩⟩ := hrel
   cases gk with
   | zero => exact absurd HA.out (by simp [grapevineref10_Same.l0])
   | succ k1 =>
    have H := HA.out
    clear HA
    simp only [grapevineref10_Same.l0] at H
    by_cases c4 : x5_1 < (l0.length : Int)
    ·
     rw [if_pos c4] at H
     have c4b0 : decide (x5_1 < (l0.length : Int)) = true := decide_eq_true c4
     clear c4
     by_cases c5 : 0 ≤ x5_1
     ·
      rw [if_pos c5] at H
      have c5b0 : decide (0 ≤ x5_1) = true := decide_eq_true c5
      clear c5
      by_cases c6 : x5_1 < (l1.length : Int)
      ·
       rw [if_pos c6] at H
       have c6b0 : decide (x5_1 < (l1.length : Int)) = true := decide_eq_true c6
       clear c6
       by_cases c7 : (!((((zQ l0 x5_1).f0).toList) == (((zQ l1 x5_1).f0).toList)) || (!((((zQ l0 x5_1).f1).toList) == (((zQ l1 x5_1).f1).toList)))) = true
       ·
        rw [if_pos c7] at H
        have c7b0 : (!((((zQ l0 x5_1).f0).toList) == (((zQ l1 x5_1).f0).toList)) || (!((((zQ l0 x5_1).f1).toList) == (((zQ l1 x5_1).f1).toList)))) = true := c7
        clear c7
        obtain rfl := Option.some.inj H
        have p286 : 0 ≤ (x5_1 : Int) := of_decide_eq_true (by first | (with_reducible assumption) | assumption)
        have q286 : x5_1 < (l0.length : Int) := of_decide_eq_true (by first | (with_reducible assumption) | assumption)
        obtain ⟨ad286, e286, hx286_0, hx286_1⟩ := at_T50 HR0.out x5_1 p286 q286
        cases e286
        replace p286 := eq_true p286
        replace q286 := eq_true q286
        have p287 : 0 ≤ (x5_1 : Int) := of_decide_eq_true (by first | (with_reducible assumption) | assumption)
        have q287 : x5_1 < (l1.length : Int) := of_decide_eq_true (by first | (with_reducible assumption) | assumption)
        obtain ⟨ad287, e287, hx287_0, hx287_1⟩ := at_T50 HR1.out x5_1 p287 q287
        cases e287
        replace p287 := eq_true p287
        replace q287 := eq_true q287
        go_wp2
        repeat (go_quiet (fail); try go_wp2)
        go_ret
        exact ⟨by first | rfl | (simp; done) | (simp [*]; done), by repeat (first | exact Drawn0.refl _ | apply Drawn0.step)⟩
       ·
        rw [if_neg c7] at H
        have c7b0 : (!((((zQ l0 x5_1).f0).toList) == (((zQ l1 x5_1).f0).toList)) || (!((((zQ l0 x5_1).f1).toList) == (((zQ l1 x5_1).f1).toList)))) = false := by simpa using c7
        clear c7
        have H' := Aside0.mk H
        clear H
        have p286 : 0 ≤ (x5_1 : Int) := of_decide_eq_true (by first | (with_reducible assumption) | assumption)
        have q286 : x5_1 < (l0.length : Int) := of_decide_eq_true (by first | (with_reducible assumption) | assumption)
        obtain ⟨ad286, e286, hx286_0, hx286_1⟩ := at_T50 HR0.out x5_1 p286 q286
        cases e286
        replace p286 := eq_true p286
        replace q286 := eq_true q286
        have p287 : 0 ≤ (x5_1 : Int) := of_decide_eq_true (by first | (with_reducible assumption) | assumption)
        have q287 : x5_1 < (l1.length : Int) := of_decide_eq_true (by first | (with_reducible assumption) | assumption)
        obtain ⟨ad287, e287, hx287_0, hx287_1⟩ := at_T50 HR1.out x5_1 p287 q287
        cases e287
        replace p287 := eq_true p287
        replace q287 := eq_true q287
        go_wp2
        repeat (go_quiet (fail); try go_wp2)
        go_roundg k1
        case measure => have := HK1.out; omega
        case rel => exact ⟨(wrap64 (x5_1 + 1)), (by first | rfl | (simp; done) | (simp [*]; done)), H', ⟨by have := HK1.out; omega⟩, by repeat (first | exact Drawn0.refl _ | apply Drawn0.step)⟩
      ·
       rw [if_neg c6] at H
       exact absurd H (by simp)
     ·
      rw [if_neg c5] at H
      exact absurd H (by simp)
    ·
     rw [if_neg c4] at H
     have c4b0 : decide (x5_1 < (l0.length : Int)) = false := decide_eq_false c4
     clear c4
     obtain rfl := Option.some.inj H
     go_wp2
     repeat (go_quiet (fail); try go_wp2)
     go_ret
     exact ⟨by first | rfl | (simp; done) | (simp [*]; done), by repeat (first | exact Drawn0.refl _ | apply Drawn0.step)⟩
 ·
  rw [if_neg c3] at H
  have c3b0 : ((l0.length : Int) == (l1.length : Int)) = false := beq_eq_false_iff_ne.mpr c3
  have c3b1 : ((l0.length : Int) != (l1.length : Int)) = true := bne_iff_ne.mpr c3
  have c3b2 : (l0.length == l1.length) = false := by first | simpa using c3 | (simp at c3 ⊢; omega)
  obtain rfl := Option.some.inj H
  go_enter Tryd.func17, Tryd.ntmps17
  go_wp2
  repeat (go_quiet (fail); try go_wp2)
  go_ret
  exact ⟨by first | rfl | (simp; done) | (simp [*]; done), by repeat (first | exact Drawn0.refl _ | apply Drawn0.step)⟩
def cmp_isNaN_string.f (a0 : ByteArray) : Option (Bool) := some (a0.toList != a0.toList)
set_option maxHeartbeats 8000000 in
set_option maxRecDepth 100000 in
theorem cmp_isNaN_string.calls (a0 : ByteArray) (r : Bool) (w : World) (h : cmp_isNaN_string.f a0 = some r) :
  Calls Tryd.prog 79 #[.string a0] w fun e w' => e = .returned (.bool r) ∧ Drawn0 w w' := by
 have H : (some (a0.toList != a0.toList)) = some r := h
 clear h
 obtain rfl := Option.some.inj H
 go_enter Tryd.func79, Tryd.ntmps79
 go_wp2
 go_ret
 exact ⟨by first | rfl | (simp; done) | (simp [*]; done), by repeat (first | exact Drawn0.refl _ | apply Drawn0.step)⟩
def cmp_Compare_string.f (a0 : ByteArray) (a1 : ByteArray) : Option (Int) := (cmp_isNaN_string.f a0).bind fun t288 => ((cmp_isNaN_string.f a1).bind fun t289 => (if t288 = true then (if t289 = true then (some 0) else (some (-1))) else (if t289 = true then (some 1) else (if (Op.bytesLess a0.toList a1.toList) = true then (some (-1)) else (if (Op.bytesLess a1.toList a0.toList) = true then (some 1) else (some 0))))))
set_option maxHeartbeats 8000000 in
set_option maxRecDepth 100000 in
theorem cmp_Compare_string.calls (a0 : ByteArray) (a1 : ByteArray) (r : Int) (w : World) (h : cmp_Compare_string.f a0 a1 = some r) :
  Calls Tryd.prog 69 #[.string a0, .string a1] w fun e w' => e = .returned (.int .i64 r) ∧ Drawn0 w w' := by
 have H : ((cmp_isNaN_string.f a0).bind fun t288 => ((cmp_isNaN_string.f a1).bind fun t289 => (if t288 = true then (if t289 = true then (some 0) else (some (-1))) else (if t289 = true then (some 1) else (if (Op.bytesLess a0.toList a1.toList) = true then (some (-1)) else (if (Op.bytesLess a1.toList a0.toList) = true then (some 1) else (some 0))))))) = some r := h
 clear h
 replace H := Option.bind_eq_some_iff.mp H
 obtain ⟨t288, A30, H⟩ := H
 replace H : ((cmp_isNaN_string.f a1).bind fun t289 => (if t288 = true then (if t289 = true then (some 0) else (some (-1))) else (if t289 = true then (some 1) else (if (Op.bytesLess a0.toList a1.toList) = true then (some (-1)) else (if (Op.bytesLess a1.toList a0.toList) = true then (some 1) else (some 0)))))) = some r := H
 have A3 := Aside0.mk A30
 clear A30
 replace H := Option.bind_eq_some_iff.mp H
 obtain ⟨t289, A40, H⟩ := H
 replace H : (if t288 = true then (if t289 = true then (some 0) else (some (-1))) else (if t289 = true then (some 1) else (if (Op.bytesLess a0.toList a1.toList) = true then (some (-1)) else (if (Op.bytesLess a1.toList a0.toList) = true then (some 1) else (some 0))))) = some r := H
 have A4 := Aside0.mk A40
 clear A40
 by_cases c5 : t288 = true
 ·
  subst c5
  have H1 : (if t289 = true then (some 0) else (some (-1))) = some r := by rw [if_pos rfl] at H; exact H
  clear H
  have H := H1
  clear H1
  by_cases c6 : t289 = true
  ·
   subst c6
   have H1 : (some 0) = some r := by rw [if_pos rfl] at H; exact H
   clear H
   have H := H1
   clear H1
   obtain rfl := Option.some.inj H
   go_enter Tryd.func69, Tryd.ntmps69
   go_wp2_with (first | ((with_reducible refine gate_callee (f := 79) rfl ?_); refine goesL_ (some 8) rfl rfl Tryd.func79 (by kernel_rfl) rfl #[.string a0] rfl (by (try simp only [List.map_toArray, List.map_cons, List.map_nil]); first | done | rfl | (simp only [List.length_drop, List.length_take]; rfl)) ?_; (with_reducible refine (cmp_isNaN_string.calls a0 true _ A3.out).mono ?_); rintro e w' ⟨rfl, ⟨nd, rfl⟩⟩; refine ⟨_, rfl, ?_⟩) | ((with_reducible refine gate_callee (f := 79) rfl ?_); refine goesL_ (some 10) rfl rfl Tryd.func79 (by kernel_rfl) rfl #[.string a1] rfl (by (try simp only [List.map_toArray, List.map_cons, List.map_nil]); first | done | rfl | (simp only [List.length_drop, List.length_take]; rfl)) ?_; (with_reducible refine (cmp_isNaN_string.calls a1 true _ A4.out).mono ?_); rintro e w' ⟨rfl, ⟨nd, rfl⟩⟩; refine ⟨_, rfl, ?_⟩))
   go_ret
   exact ⟨by first | rfl | (simp; done) | (simp [*]; done), by repeat (first | exact Drawn0.refl _ | apply Drawn0.step)⟩
  ·
   replace c6 := Bool.eq_false_iff.mpr c6
   subst c6
   have H1 : (some (-1)) = some r := by rw [if_neg (show ¬ (false = true) by decide)] at H; exact H
   clear H
   have H := H1
   clear H1
   obtain rfl := Option.some.inj H
   go_enter Tryd.func69, Tryd.ntmps69
   go_wp2_with (first | ((with_reducible refine gate_callee (f := 79) rfl ?_); refine goesL_ (some 8) rfl rfl Tryd.func79 (by kernel_rfl) rfl #[.string a0] rfl (by (try simp only [List.map_toArray, List.map_cons, List.map_nil]); first | done | rfl | (simp only [List.length_drop, List.length_take]; rfl)) ?_; (with_reducible refine (cmp_isNaN_string.calls a0 true _ A3.out).mono ?_); rintro e w' ⟨rfl, ⟨nd, rfl⟩⟩; refine ⟨_, rfl, ?_⟩) | ((with_reducible refine gate_callee (f := 79) rfl ?_); refine goesL_ (some 10) rfl rfl Tryd.func79 (by kernel_rfl) rfl #[.string a1] rfl (by (try simp only [List.map_toArray, List.map_cons, List.map_nil]); first | done | rfl | (simp only [List.length_drop, List.length_take]; rfl)) ?_; (with_reducible refine (cmp_isNaN_string.calls a1 false _ A4.out).mono ?_); rintro e w' ⟨rfl, ⟨nd, rfl⟩⟩; refine ⟨_, rfl, ?_⟩))
   go_ret
   exact ⟨by first | rfl | (simp; done) | (simp [*]; done), by repeat (first | exact Drawn0.refl _ | apply Drawn0.step)⟩
 ·
  replace c5 := Bool.eq_false_iff.mpr c5
  subst c5
  have H1 : (if t289 = true then (some 1) else (if (Op.bytesLess a0.toList a1.toList) = true then (some (-1)) else (if (Op.bytesLess a1.toList a0.toList) = true then (some 1) else (some 0)))) = some r := by rw [if_neg (show ¬ (false = true) by decide)] at H; exact H
  clear H
  have H := H1
  clear H1
  by_cases c7 : t289 = true
  ·
   subst c7
   have H1 : (some 1) = some r := by rw [if_pos rfl] at H; exact H
   clear H
   have H := H1
   clear H1
   obtain rfl := Option.some.inj H
   go_enter Tryd.func69, Tryd.ntmps69
   go_wp2_with (first | ((with_reducible refine gate_callee (f := 79) rfl ?_); refine goesL_ (some 8) rfl rfl Tryd.func79 (by kernel_rfl) rfl #[.string a0] rfl (by (try simp only [List.map_toArray, List.map_cons, List.map_nil]); first | done | rfl | (simp only [List.length_drop, List.length_take]; rfl)) ?_; (with_reducible refine (cmp_isNaN_string.calls a0 false _ A3.out).mono ?_); rintro e w' ⟨rfl, ⟨nd, rfl⟩⟩; refine ⟨_, rfl, ?_⟩) | ((with_reducible refine gate_callee (f := 79) rfl ?_); refine goesL_ (some 10) rfl rfl Tryd.func79 (by kernel_rfl) rfl #[.string a1] rfl (by (try simp only [List.map_toArray, List.map_cons, List.map_nil]); first | done | rfl | (simp only [List.length_drop, List.length_take]; rfl)) ?_; (with_reducible refine (cmp_isNaN_string.calls a1 true _ A4.out).mono ?_); rintro e w' ⟨rfl, ⟨nd, rfl⟩⟩; refine ⟨_, rfl, ?_⟩))
   go_ret
   exact ⟨by first | rfl | (simp; done) | (simp [*]; done), by repeat (first | exact Drawn0.refl _ | apply Drawn0.step)⟩
  ·
   replace c7 := Bool.eq_false_iff.mpr c7
   subst c7
   have H1 : (if (Op.bytesLess a0.toList a1.toList) = true then (some (-1)) else (if (Op.bytesLess a1.toList a0.toList) = true then (some 1) else (some 0))) = some r := by rw [if_neg (show ¬ (false = true) by decide)] at H; exact H
   clear H
   have H := H1
   clear H1
   by_cases c8 : (Op.bytesLess a0.toList a1.toList) = true
   ·
    rw [if_pos c8] at H
    have c8b0 : (Op.bytesLess a0.toList a1.toList) = true := c8
    clear c8
    obtain rfl := Option.some.inj H
    go_enter Tryd.func69, Tryd.ntmps69
    go_wp2_with (first | ((with_reducible refine gate_callee (f := 79) rfl ?_); refine goesL_ (some 8) rfl rfl Tryd.func79 (by kernel_rfl) rfl #[.string a0] rfl (by (try simp only [List.map_toArray, List.map_cons, List.map_nil]); first | done | rfl | (simp only [List.length_drop, List.length_take]; rfl)) ?_; (with_reducible refine (cmp_isNaN_string.calls a0 false _ A3.out).mono ?_); rintro e w' ⟨rfl, ⟨nd, rfl⟩⟩; refine ⟨_, rfl, ?_⟩) | ((with_reducible refine gate_callee (f := 79) rfl ?_); refine goesL_ (some 10) rfl rfl Tryd.func79 (by kernel_rfl) rfl #[.string a1] rfl (by (try simp only [List.map_toArray, List.map_cons, List.map_nil]); first | done | rfl | (simp only [List.length_drop, List.length_take]; rfl)) ?_; (with_reducible refine (cmp_isNaN_string.calls a1 false _ A4.out).mono ?_); rintro e w' ⟨rfl, ⟨nd, rfl⟩⟩; refine ⟨_, rfl, ?_⟩))
    go_ret
    exact ⟨by first | rfl | (simp; done) | (simp [*]; done), by repeat (first | exact Drawn0.refl _ | apply Drawn0.step)⟩
   ·
    rw [if_neg c8] at H
    have c8b0 : (Op.bytesLess a0.toList a1.toList) = false := by simpa using c8
    clear c8
    by_cases c9 : (Op.bytesLess a1.toList a0.toList) = true
    ·
     rw [if_pos c9] at H
     have c9b0 : (Op.bytesLess a1.toList a0.toList) = true := c9
     clear c9
     obtain rfl := Option.some.inj H
     go_enter Tryd.func69, Tryd.ntmps69
     go_wp2_with (first | ((with_reducible refine gate_callee (f := 79) rfl ?_); refine goesL_ (some 8) rfl rfl Tryd.func79 (by kernel_rfl) rfl #[.string a0] rfl (by (try simp only [List.map_toArray, List.map_cons, List.map_nil]); first | done | rfl | (simp only [List.length_drop, List.length_take]; rfl)) ?_; (with_reducible refine (cmp_isNaN_string.calls a0 false _ A3.out).mono ?_); rintro e w' ⟨rfl, ⟨nd, rfl⟩⟩; refine ⟨_, rfl, ?_⟩) | ((with_reducible refine gate_callee (f := 79) rfl ?_); refine goesL_ (some 10) rfl rfl Tryd.func79 (by kernel_rfl) rfl #[.string a1] rfl (by (try simp only [List.map_toArray, List.map_cons, List.map_nil]); first | done | rfl | (simp only [List.length_drop, List.length_take]; rfl)) ?_; (with_reducible refine (cmp_isNaN_string.calls a1 false _ A4.out).mono ?_); rintro e w' ⟨rfl, ⟨nd, rfl⟩⟩; refine ⟨_, rfl, ?_⟩))
     go_ret
     exact ⟨by first | rfl | (simp; done) | (simp [*]; done), by repeat (first | exact Drawn0.refl _ | apply Drawn0.step)⟩
    ·
     rw [if_neg c9] at H
     have c9b0 : (Op.bytesLess a1.toList a0.toList) = false := by simpa using c9
     clear c9
     obtain rfl := Option.some.inj H
     go_enter Tryd.func69, Tryd.ntmps69
     go_wp2_with (first | ((with_reducible refine gate_callee (f := 79) rfl ?_); refine goesL_ (some 8) rfl rfl Tryd.func79 (by kernel_rfl) rfl #[.string a0] rfl (by (try simp only [List.map_toArray, List.map_cons, List.map_nil]); first | done | rfl | (simp only [List.length_drop, List.length_take]; rfl)) ?_; (with_reducible refine (cmp_isNaN_string.calls a0 false _ A3.out).mono ?_); rintro e w' ⟨rfl, ⟨nd, rfl⟩⟩; refine ⟨_, rfl, ?_⟩) | ((with_reducible refine gate_callee (f := 79) rfl ?_); refine goesL_ (some 10) rfl rfl Tryd.func79 (by kernel_rfl) rfl #[.string a1] rfl (by (try simp only [List.map_toArray, List.map_cons, List.map_nil]); first | done | rfl | (simp only [List.length_drop, List.length_take]; rfl)) ?_; (with_reducible refine (cmp_isNaN_string.calls a1 false _ A4.out).mono ?_); rintro e w' ⟨rfl, ⟨nd, rfl⟩⟩; refine ⟨_, rfl, ?_⟩))
     go_ret
     exact ⟨by first | rfl | (simp; done) | (simp [*]; done), by repeat (first | exact Drawn0.refl _ | apply Drawn0.step)⟩
def tree_find_1.f (a0_0 : ByteArray) (a0_1 : ByteArray) (a1 : ByteArray) : Option (Int) := (cmp_Compare_string.f a0_0 a1).bind fun t291 => (some t291)
set_option maxHeartbeats 8000000 in
set_option maxRecDepth 100000 in
theorem tree_find_1.calls (a0_0 : ByteArray) (a0_1 : ByteArray) (a1 : ByteArray) (r : Int) (w : World) (h : tree_find_1.f a0_0 a0_1 a1 = some r) :
  Calls Tryd.prog 68 #[.agg #[.string a0_0, .string a0_1], .string a1] w fun e w' => e = .returned (.int .i64 r) ∧ Below w.heap.size w w' := by
 have hu50 := Tryd.underlying50
 have HB := Aside0.mk (Below.refl w.heap.size w)
 have H : ((cmp_Compare_string.f a0_0 a1).bind fun t291 => (some t291)) = some r := h
 clear h
 replace H := Option.bind_eq_some_iff.mp H
 obtain ⟨t291, A30, H⟩ := H
 replace H : (some t291) = some r := H
 have A3 := Aside0.mk A30
 clear A30
 obtain rfl := Option.some.inj H
 go_enter Tryd.func68, Tryd.ntmps68
 go_wp2_with (first | ((with_reducible refine gate_dst (N := 2) rfl ?_); refine box_event ?hg (N := 2) ?hd (cs := #[.string a0_0, .string a0_1]) (t := 50) ?hr ?_; (case hd => rfl); (case hg => rfl); (case hr => first | (go_simp; done) | (go_simp; rfl)); intro gb290 hg w4 hbox hb; have n0_ := Aside0.mk (zL (by repeat (first | (with_reducible first | exact HB.out | apply zC | apply zA | apply zB) | exact HB.out)) hb); have n1_ := Aside0.mk (hbox); have n2_ := Aside0.mk ((by rw [hg]; exact (zK (by repeat (first | (with_reducible first | exact HB.out | apply zC | apply zA | apply zB) | exact HB.out))) : w.heap.size ≤ gb290)); have n3_ := Aside0.mk ((by rw [hg]; exact (zK (by repeat (first | (with_reducible first | exact HB.out | apply zC | apply zA | apply zB) | exact HB.out))) : w.heap.size ≤ gb290)); clear HB; have HB := n0_; have BK290 := n1_; have GW290 := n2_; have GE290 := n3_; clear n0_ n1_ n2_ n3_; clear hb hbox hg; have hcz5_0 : w4.cell? ⟨gb290, 0, none⟩ = some (.string a0_0) := (zD BK290.out 0).trans rfl; have hcz5_1 : w4.cell? ⟨gb290, 1, none⟩ = some (.string a0_1) := (zD BK290.out 1).trans rfl; have hfz5_0 := zH BK290.out 0; have hfz5_1 := zH BK290.out 1) | ((with_reducible refine gate_callee (f := 69) rfl ?_); refine goesL_ (some 8) rfl rfl Tryd.func69 (by kernel_rfl) rfl #[.string a0_0, .string a1] rfl (by (try simp only [List.map_toArray, List.map_cons, List.map_nil]); first | done | rfl | (simp only [List.length_drop, List.length_take]; rfl)) ?_; (with_reducible refine (cmp_Compare_string.calls a0_0 a1 t291 _ A3.out).mono ?_); rintro e w' ⟨rfl, ⟨nd, rfl⟩⟩; refine ⟨_, rfl, ?_⟩))
 go_ret
 exact ⟨by first | rfl | (simp [zO, zN] <;> rfl) | (simp [*, zO, zN] <;> rfl), by repeat (first | (with_reducible first | exact HB.out | apply zC | apply zA | apply zB | refine zE ?_ GE290.out) | exact HB.out)⟩
def api_File_string_68.l0 : Nat → List (S50) → ByteArray → Int → Int → Int → Option (Int × Bool)
 | 0, _, _, _, _, _ => none
 | k + 1, x0, x1, x8, x9, x10 => if x9 < x10 then (if 0 ≤ (wrap64 ((IntKind.u64.wrap (wrap64 (x9 + x10))) / 2)) then (if (wrap64 ((IntKind.u64.wrap (wrap64 (x9 + x10))) / 2)) < (x0.length : Int) then ((tree_find_1.f ((zQ x0 (wrap64 ((IntKind.u64.wrap (wrap64 (x9 + x10))) / 2))).f0) ((zQ x0 (wrap64 ((IntKind.u64.wrap (wrap64 (x9 + x10))) / 2))).f1) x1).bind fun t293 => (if t293 < 0 then (api_File_string_68.l0 k x0 x1 x8 (wrap64 ((wrap64 ((IntKind.u64.wrap (wrap64 (x9 + x10))) / 2)) + 1)) x10) else (api_File_string_68.l0 k x0 x1 x8 x9 (wrap64 ((IntKind.u64.wrap (wrap64 (x9 + x10))) / 2))))) else (none)) else (none)) else (if x9 < x8 then (if 0 ≤ x9 then (if x9 < (x0.length : Int) then ((tree_find_1.f ((zQ x0 x9).f0) ((zQ x0 x9).f1) x1).bind fun t295 => (some (x9, (t295 == 0)))) else (none)) else (none)) else (some (x9, false)))
def api_File_string_68.f (k : Nat) (l0 : List (S50)) (a1 : ByteArray) : Option (Int × Bool) := api_File_string_68.l0 k l0 a1 (l0.length : Int) 0 (l0.length : Int)
set_option maxHeartbeats 8000000 in
set_option maxRecDepth 100000 in
theorem api_File_string_68.calls (k : Nat) (A0 : Option Addr) (c0 : Nat) (l0 : List (S50)) (a1 : ByteArray) (r1 : Int) (r2 : Bool) (w : World) (hr0 : Kd.C k50 w A0 l0.length l0) (hc0 : l0.length ≤ c0) (h : api_File_string_68.f k l0 a1 = some (r1, r2)) :
  Calls Tryd.prog 67 #[.slice A0 l0.length c0, .string a1, (.func (.func 68) #[] #[] : Value)] w fun e w' => e = .returned (.tuple #[.int .i64 r1, .bool r2]) ∧ Below w.heap.size w w' := by
 have hu50 := Tryd.underlying50
 have HR0 := Aside0.mk hr0
 have HC0 := Aside0.mk hc0
 clear hr0 hc0
 have HB := Aside0.mk (Below.refl w.heap.size w)
 have H : (api_File_string_68.l0 k l0 a1 (l0.length : Int) 0 (l0.length : Int)) = some (r1, r2) := h
 clear h
 have H' := Aside0.mk H
 clear H
 go_enter Tryd.func67, Tryd.ntmps67
 go_wp2
 go_loopg [9, 10] k (fun kq v9 v10 w' => ∃ (x9_1 : Int) (x10_1 : Int), v9 = .int .i64 x9_1 ∧ v10 = .int .i64 x10_1 ∧ Aside0 (api_File_string_68.l0 kq l0 a1 (l0.length : Int) x9_1 x10_1 = some (r1, r2)) ∧ Aside0 (kq ≤ k) ∧ Aside0 (Below w.heap.size w w'))
 case atStart => exact ⟨(0), ((l0.length : Int)), (by first | rfl | (simp; done) | (simp [*]; done)), (by first | rfl | (simp; done) | (simp [*]; done)), H', ⟨Nat.le_refl _⟩, ⟨by repeat (first | (with_reducible first | exact HB.out | apply zC | apply zA | apply zB) | exact HB.out)⟩⟩
 case round =>
  clear H'
  try clear c1
  try clear p2
  obtain ⟨x9_1, x10_1, rfl, rfl, HA, HK1, HB⟩ := hrel
  cases gk with
  | zero => exact absurd HA.out (by simp [api_File_string_68.l0])
  | succ k1 =>
   have H := HA.out
   clear HA
   simp only [api_File_string_68.l0] at H
   by_cases c3 : x9_1 < x10_1
   ·
    rw [if_pos c3] at H
    have c3b0 : decide (x9_1 < x10_1) = true := decide_eq_true c3
    clear c3
    obtain ⟨ji4, hji4⟩ : ∃ j_ : Int, (wrap64 ((IntKind.u64.wrap (wrap64 (x9_1 + x10_1))) / 2)) = j_ := ⟨_, rfl⟩
    replace H : (if 0 ≤ (ji4) then (if (ji4) < (l0.length : Int) then ((tree_find_1.f ((zQ l0 (ji4)).f0) ((zQ l0 (ji4)).f1) a1).bind fun t293 => (if t293 < 0 then (api_File_string_68.l0 k1 l0 a1 (l0.length : Int) (wrap64 ((ji4) + 1)) x10_1) else (api_File_string_68.l0 k1 l0 a1 (l0.length : Int) x9_1 ji4))) else (none)) else (none)) = some (r1, r2) := by first | (rw [hji4] at H; exact H) | (simp only [hji4] at H ⊢; exact H)
    have hji4w : (IntKind.i64.wrap ((IntKind.u64.wrap (wrap64 (x9_1 + x10_1))) / 2)) = ji4 := (i64_w _).trans hji4
    by_cases c5 : 0 ≤ (ji4)
    ·
     rw [if_pos c5] at H
     have c5b0 : decide (0 ≤ (ji4)) = true := decide_eq_true c5
     clear c5
     by_cases c6 : (ji4) < (l0.length : Int)
     ·
      rw [if_pos c6] at H
      have c6b0 : decide ((ji4) < (l0.length : Int)) = true := decide_eq_true c6
      clear c6
      replace H := Option.bind_eq_some_iff.mp H
      obtain ⟨t293, A70, H⟩ := H
      replace H : (if t293 < 0 then (api_File_string_68.l0 k1 l0 a1 (l0.length : Int) (wrap64 ((ji4) + 1)) x10_1) else (api_File_string_68.l0 k1 l0 a1 (l0.length : Int) x9_1 ji4)) = some (r1, r2) := H
      have A7 := Aside0.mk A70
      clear A70
      by_cases c8 : t293 < 0
      ·
       rw [if_pos c8] at H
       have c8b0 : decide (t293 < 0) = true := decide_eq_true c8
       clear c8
       have H' := Aside0.mk H
       clear H
       have p292 : 0 ≤ ((ji4) : Int) := of_decide_eq_true (by first | (with_reducible assumption) | assumption)
       have q292 : (ji4) < (l0.length : Int) := of_decide_eq_true (by first | (with_reducible assumption) | assumption)
       obtain ⟨ad292, e292, hx292_0, hx292_1⟩ := at_T50 HR0.out (ji4) p292 q292
       cases e292
       replace hx292_0 := (HB.out.cell (World.block_lt_of_cell? w _ hx292_0)).trans hx292_0
       replace hx292_1 := (HB.out.cell (World.block_lt_of_cell? w _ hx292_1)).trans hx292_1
       replace p292 := eq_true p292
       replace q292 := eq_true q292
       go_wp2_with (first | (go_at_call 68; (with_reducible refine (tree_find_1.calls ((zQ l0 (ji4)).f0) ((zQ l0 (ji4)).f1) a1 t293 _ A7.out).mono ?_); rintro e w9 ⟨rfl, hb⟩; have n0_ := Aside0.mk (zL (by repeat (first | (with_reducible first | exact HB.out | apply zC | apply zA | apply zB) | exact HB.out)) hb); clear HB; have HB := n0_; clear n0_; (try clear hb); (try clear hb2); (try clear hk); (try clear hi)))
       go_roundg k1
       case measure => have := HK1.out; omega
       case rel => exact ⟨(wrap64 ((ji4) + 1)), (x10_1), (by first | rfl | (simp; done) | (simp only [← hji4] <;> (first | rfl | simp)) | (simp [*]; done)), (by first | rfl | (simp; done) | (simp [*]; done)), H', ⟨by have := HK1.out; omega⟩, ⟨by repeat (first | (with_reducible first | exact HB.out | apply zC | apply zA | apply zB) | exact HB.out)⟩⟩
      ·
       rw [if_neg c8] at H
       have c8b0 : decide (t293 < 0) = false := decide_eq_false c8
       clear c8
       have H' := Aside0.mk H
       clear H
       have p292 : 0 ≤ ((ji4) : Int) := of_decide_eq_true (by first | (with_reducible assumption) | assumption)
       have q292 : (ji4) < (l0.length : Int) := of_decide_eq_true (by first | (with_reducible assumption) | assumption)
       obtain ⟨ad292, e292, hx292_0, hx292_1⟩ := at_T50 HR0.out (ji4) p292 q292
       cases e292
       replace hx292_0 := (HB.out.cell (World.block_lt_of_cell? w _ hx292_0)).trans hx292_0
       replace hx292_1 := (HB.out.cell (World.block_lt_of_cell? w _ hx292_1)).trans hx292_1
       replace p292 := eq_true p292
       replace q292 := eq_true q292
       go_wp2_with (first | (go_at_call 68; (with_reducible refine (tree_find_1.calls ((zQ l0 (ji4)).f0) ((zQ l0 (ji4)).f1) a1 t293 _ A7.out).mono ?_); rintro e w10 ⟨rfl, hb⟩; have n0_ := Aside0.mk (zL (by repeat (first | (with_reducible first | exact HB.out | apply zC | apply zA | apply zB) | exact HB.out)) hb); clear HB; have HB := n0_; clear n0_; (try clear hb); (try clear hb2); (try clear hk); (try clear hi)))
       go_roundg k1
       case measure => have := HK1.out; omega
       case rel => exact ⟨(x9_1), (ji4), (by first | rfl | (simp; done) | (simp [*]; done)), (by first | rfl | (simp; done) | (simp only [← hji4] <;> (first | rfl | simp)) | (simp [*]; done)), H', ⟨by have := HK1.out; omega⟩, ⟨by repeat (first | (with_reducible first | exact HB.out | apply zC | apply zA | apply zB) | exact HB.out)⟩⟩
     ·
      rw [if_neg c6] at H
      exact absurd H (by simp)
    ·
     rw [if_neg c5] at H
     exact absurd H (by simp)
   ·
    rw [if_neg c3] at H
    have c3b0 : decide (x9_1 < x10_1) = false := decide_eq_false c3
    clear c3
    by_cases c11 : x9_1 < (l0.length : Int)
    ·
     rw [if_pos c11] at H
     have c11b0 : decide (x9_1 < (l0.length : Int)) = true := decide_eq_true c11
     clear c11
     by_cases c12 : 0 ≤ x9_1
     ·
      rw [if_pos c12] at H
      have c12b0 : decide (0 ≤ x9_1) = true := decide_eq_true c12
      clear c12
      by_cases c13 : x9_1 < (l0.length : Int)
      ·
       rw [if_pos c13] at H
       have c13b0 : decide (x9_1 < (l0.length : Int)) = true := decide_eq_true c13
       clear c13
       replace H := Option.bind_eq_some_iff.mp H
       obtain ⟨t295, A140, H⟩ := H
       replace H : (some (x9_1, (t295 == 0))) = some (r1, r2) := H
       have A14 := Aside0.mk A140
       clear A140
       simp only [Option.some.injEq, Prod.mk.injEq] at H
       obtain ⟨rfl, rfl⟩ := H
       have p294 : 0 ≤ (x9_1 : Int) := of_decide_eq_true (by first | (with_reducible assumption) | assumption)
       have q294 : x9_1 < (l0.length : Int) := of_decide_eq_true (by first | (with_reducible assumption) | assumption)
       obtain ⟨ad294, e294, hx294_0, hx294_1⟩ := at_T50 HR0.out x9_1 p294 q294
       cases e294
       replace hx294_0 := (HB.out.cell (World.block_lt_of_cell? w _ hx294_0)).trans hx294_0
       replace hx294_1 := (HB.out.cell (World.block_lt_of_cell? w _ hx294_1)).trans hx294_1
       replace p294 := eq_true p294
       replace q294 := eq_true q294
       go_wp2_with (first | (go_at_call 68; (with_reducible refine (tree_find_1.calls ((zQ l0 x9_1).f0) ((zQ l0 x9_1).f1) a1 t295 _ A14.out).mono ?_); rintro e w15 ⟨rfl, hb⟩; have n0_ := Aside0.mk (zL (by repeat (first | (with_reducible first | exact HB.out | apply zC | apply zA | apply zB) | exact HB.out)) hb); clear HB; have HB := n0_; clear n0_; (try clear hb); (try clear hb2); (try clear hk); (try clear hi)))
       go_ret2
       exact ⟨by first | rfl | (simp [zO, zN] <;> rfl) | (simp [*, zO, zN] <;> rfl), by repeat (first | (with_reducible first | exact HB.out | apply zC | apply zA | apply zB) | exact HB.out)⟩
      ·
       rw [if_neg c13] at H
       exact absurd H (by simp)
     ·
      rw [if_neg c12] at H
      exact absurd H (by simp)
    ·
     rw [if_neg c11] at H
     have c11b0 : decide (x9_1 < (l0.length : Int)) = false := decide_eq_false c11
     clear c11
     simp only [Option.some.injEq, Prod.mk.injEq] at H
     obtain ⟨rfl, rfl⟩ := H
     go_wp2
     go_ret2
     exact ⟨by first | rfl | (simp [zO, zN] <;> rfl) | (simp [*, zO, zN] <;> rfl), by repeat (first | (with_reducible first | exact HB.out | apply zC | apply zA | apply zB) | exact HB.out)⟩
def tree_find.f (k : Nat) (l0 : List (S50)) (a1 : ByteArray) : Option (Int × Bool) := (api_File_string_68.f k l0 a1).bind fun bt296 => (some (bt296.1, bt296.2))
set_option maxHeartbeats 8000000 in
set_option maxRecDepth 100000 in
theorem tree_find.calls (k : Nat) (A0 : Option Addr) (c0 : Nat) (l0 : List (S50)) (a1 : ByteArray) (r1 : Int) (r2 : Bool) (w : World) (hr0 : Kd.C k50 w A0 l0.length l0) (hc0 : l0.length ≤ c0) (h : tree_find.f k l0 a1 = some (r1, r2)) :
  Calls Tryd.prog 51 #[.slice A0 l0.length c0, .string a1] w fun e w' => e = .returned (.tuple #[.int .i64 r1, .bool r2]) ∧ Below w.heap.size w w' := by
 have HR0 := Aside0.mk hr0
 have HC0 := Aside0.mk hc0
 clear hr0 hc0
 have HB := Aside0.mk (Below.refl w.heap.size w)
 have H : ((api_File_string_68.f k l0 a1).bind fun bt296 => (some (bt296.1, bt296.2))) = some (r1, r2) := h
 clear h
 replace H := Option.bind_eq_some_iff.mp H
 obtain ⟨⟨t296, t297⟩, A30, H⟩ := H
 replace H : (some (t296, t297)) = some (r1, r2) := H
 have A3 := Aside0.mk A30
 clear A30
 simp only [Option.some.injEq, Prod.mk.injEq] at H
 obtain ⟨rfl, rfl⟩ := H
 go_enter Tryd.func51, Tryd.ntmps51
 go_wp2_with (first | ((with_reducible refine gate_callee (f := 67) rfl ?_); refine goesL_ (some 8) rfl rfl Tryd.func67 (by kernel_rfl) rfl #[.slice A0 l0.length c0, .string a1, (.func (.func 68) #[] #[] : Value)] rfl (by (try simp only [List.map_toArray, List.map_cons, List.map_nil]); first | done | rfl | (simp only [List.length_drop, List.length_take]; rfl)) ?_; (with_reducible refine (api_File_string_68.calls k _ _ l0 a1 t296 t297 _ ?side1 ?side2 A3.out).mono ?_); (case side1 => repeat (first | exact HR0.out | (with_reducible refine Kd.C_alloc ?_ _) | (with_reducible refine Kd.C_drewN ?_ _) | (with_reducible refine Kd.C_drew ?_))); (case side2 => exact HC0.out); rintro e w4 ⟨rfl, hb⟩; refine ⟨_, rfl, ?_⟩; have n0_ := Aside0.mk (zL (by repeat (first | (with_reducible first | exact HB.out | apply zC | apply zA | apply zB) | exact HB.out)) hb); clear HB; have HB := n0_; clear n0_; (try clear hb); (try clear hb2); (try clear hk); (try clear hi)))
 go_ret2
 exact ⟨by first | rfl | (simp [zO, zN] <;> rfl) | (simp [*, zO, zN] <;> rfl), by repeat (first | (with_reducible first | exact HB.out | apply zC | apply zA | apply zB) | exact HB.out)⟩
def tree_Drop.f (k : Nat) (l0 : List (S50)) (a1 : ByteArray) : Option ((List (S50)) × Bool) := (tree_find.f k l0 a1).bind fun bt298 => ((clone_files.f l0).bind fun t300 => (if bt298.2 = true then ((delete_files.f t300 bt298.1 (wrap64 (bt298.1 + 1))).bind fun t303 => (some (t303, bt298.2))) else (some (t300, bt298.2))))
set_option maxHeartbeats 8000000 in
set_option maxRecDepth 100000 in
theorem tree_Drop.calls (k : Nat) (A0 : Option Addr) (c0 : Nat) (l0 : List (S50)) (a1 : ByteArray) (r1 : List (S50)) (r2 : Bool) (w : World) (hr0 : Kd.C k50 w A0 l0.length l0) (hc0 : l0.length ≤ c0) (h : tree_Drop.f k l0 a1 = some (r1, r2)) :
  Calls Tryd.prog 32 #[.slice A0 l0.length c0, .string a1] w fun e w' => ∃ v0_ : Value, e = .returned (.tuple #[v0_, .bool r2]) ∧ Kd.R k50 50 w' w.heap.size (fun _ => True) v0_ r1 ∧ Below w.heap.size w w' := by
 have HR0 := Aside0.mk hr0
 have HC0 := Aside0.mk hc0
 clear hr0 hc0
 have HB := Aside0.mk (Below.refl w.heap.size w)
 have H : ((tree_find.f k l0 a1).bind fun bt298 => ((clone_files.f l0).bind fun t300 => (if bt298.2 = true then ((delete_files.f t300 bt298.1 (wrap64 (bt298.1 + 1))).bind fun t303 => (some (t303, bt298.2))) else (some (t300, bt298.2))))) = some (r1, r2) := h
 clear h
 replace H := Option.bind_eq_some_iff.mp H
 obtain ⟨⟨t298, t299⟩, A30, H⟩ := H
 replace H : ((clone_files.f l0).bind fun t300 => (if t299 = true then ((delete_files.f t300 t298 (wrap64 (t298 + 1))).bind fun t303 => (some (t303, t299))) else (some (t300, t299)))) = some (r1, r2) := H
 have A3 := Aside0.mk A30
 clear A30
 replace H := Option.bind_eq_some_iff.mp H
 obtain ⟨t300, A40, H⟩ := H
 replace H : (if t299 = true then ((delete_files.f t300 t298 (wrap64 (t298 + 1))).bind fun t303 => (some (t303, t299))) else (some (t300, t299))) = some (r1, r2) := H
 have A4 := Aside0.mk A40
 clear A40
 by_cases c5 : t299 = true
 ·
  subst c5
  have H1 : ((delete_files.f t300 t298 (wrap64 (t298 + 1))).bind fun t303 => (some (t303, true))) = some (r1, r2) := by rw [if_pos rfl] at H; exact H
  clear H
  have H := H1
  clear H1
  replace H := Option.bind_eq_some_iff.mp H
  obtain ⟨t303, A60, H⟩ := H
  replace H : (some (t303, true)) = some (r1, r2) := H
  have A6 := Aside0.mk A60
  clear A60
  simp only [Option.some.injEq, Prod.mk.injEq] at H
  obtain ⟨rfl, rfl⟩ := H
  go_enter Tryd.func32, Tryd.ntmps32
  go_wp2_with (first | ((with_reducible refine gate_callee (f := 51) rfl ?_); refine goesL_ (some 12) rfl rfl Tryd.func51 (by kernel_rfl) rfl #[.slice A0 l0.length c0, .string a1] rfl (by (try simp only [List.map_toArray, List.map_cons, List.map_nil]); first | done | rfl | (simp only [List.length_drop, List.length_take]; rfl)) ?_; (with_reducible refine (tree_find.calls k _ _ l0 a1 t298 true _ ?side1 ?side2 A3.out).mono ?_); (case side1 => repeat (first | exact HR0.out | (with_reducible refine Kd.C_alloc ?_ _) | (with_reducible refine Kd.C_drewN ?_ _) | (with_reducible refine Kd.C_drew ?_))); (case side2 => exact HC0.out); rintro e w7 ⟨rfl, hb⟩; refine ⟨_, rfl, ?_⟩; have n0_ := Aside0.mk (zL (by repeat (first | (with_reducible first | exact HB.out | apply zC | apply zA | apply zB) | exact HB.out)) hb); clear HB; have HB := n0_; clear n0_; (try clear hb); (try clear hb2); (try clear hk); (try clear hi)) | ((with_reducible refine gate_callee (f := 31) rfl ?_); refine goesL_ (some 16) rfl rfl Tryd.func31 (by kernel_rfl) rfl #[.slice A0 l0.length c0] rfl (by (try simp only [List.map_toArray, List.map_cons, List.map_nil]); first | done | rfl | (simp only [List.length_drop, List.length_take]; rfl)) ?_; (with_reducible refine (clone_files.calls _ _ l0 t300 _ ?side1 ?side2 A4.out).mono ?_); (case side1 => repeat (first | exact (Kd.C_below HR0.out HB.out) | (with_reducible refine Kd.C_alloc ?_ _) | (with_reducible refine Kd.C_drewN ?_ _) | (with_reducible refine Kd.C_drew ?_))); (case side2 => exact HC0.out); rintro e w8 ⟨v301, rfl, ho0, hb⟩; refine ⟨_, rfl, ?_⟩; have n0_ := Aside0.mk (Kd.R_lower ho0 (zK (by repeat (first | (with_reducible first | exact HB.out | apply zC | apply zA | apply zB) | exact HB.out)))); have n1_ := Aside0.mk (zL (by repeat (first | (with_reducible first | exact HB.out | apply zC | apply zA | apply zB) | exact HB.out)) hb); clear HB; have HO302 := n0_; have HB := n1_; clear n0_ n1_; (try clear hb); (try clear hb2); (try clear hk); (try clear hi); (try clear ho0); obtain ⟨Ao9, co9, eo9⟩ := Kd.R_slice HO302.out; subst eo9) | ((with_reducible refine gate_callee (f := 52) rfl ?_); refine goesL_ (some 22) rfl rfl Tryd.func52 (by kernel_rfl) rfl #[.slice Ao9 t300.length co9, .int .i64 t298, .int .i64 (wrap64 (t298 + 1))] rfl (by (try simp only [List.map_toArray, List.map_cons, List.map_nil]); first | done | rfl | (simp only [List.length_drop, List.length_take]; rfl)) ?_; (with_reducible refine (delete_files.calls (fun k_ => some k_ = (.slice Ao9 t300.length co9 : Value).ownBlock) (.slice Ao9 t300.length co9) t300 t298 (wrap64 (t298 + 1)) t303 w _ ?side1 ?side2 A6.out).mono ?_); (case side1 => repeat (first | (with_reducible first | exact HB.out | apply zC | apply zA | apply zB) | exact HB.out)); (case side2 => exact Kd.R_tight rfl HO302.out); rintro e w10 ⟨v304, rfl, ho0, hb, hkp⟩; refine ⟨_, rfl, ?_⟩; have n0_ := Aside0.mk (Kd.R_mono (ok' := fun k_ => True) ho0 (fun k_ hk_ => trivial)); have n1_ := Aside0.mk (hb); clear HB; clear HO302; have HO305 := n0_; have HB := n1_; clear n0_ n1_; (try clear hb); (try clear hkp); (try clear ho0)))
  go_ret2
  exact ⟨_, by first | rfl | (simp [zO, zN] <;> rfl) | (simp [*, zO, zN] <;> rfl), by (with_reducible repeat (first | apply Kd.R_alloc | apply Kd.R_drewN | apply Kd.R_drew)); exact HO305.out, by repeat (first | (with_reducible first | exact HB.out | apply zC | apply zA | apply zB) | exact HB.out)⟩
 ·
  replace c5 := Bool.eq_false_iff.mpr c5
  subst c5
  have H1 : (some (t300, false)) = some (r1, r2) := by rw [if_neg (show ¬ (false = true) by decide)] at H; exact H
  clear H
  have H := H1
  clear H1
  simp only [Option.some.injEq, Prod.mk.injEq] at H
  obtain ⟨rfl, rfl⟩ := H
  go_enter Tryd.func32, Tryd.ntmps32
  go_wp2_with (first | ((with_reducible refine gate_callee (f := 51) rfl ?_); refine goesL_ (some 12) rfl rfl Tryd.func51 (by kernel_rfl) rfl #[.slice A0 l0.length c0, .string a1] rfl (by (try simp only [List.map_toArray, List.map_cons, List.map_nil]); first | done | rfl | (simp only [List.length_drop, List.length_take]; rfl)) ?_; (with_reducible refine (tree_find.calls k _ _ l0 a1 t298 false _ ?side1 ?side2 A3.out).mono ?_); (case side1 => repeat (first | exact HR0.out | (with_reducible refine Kd.C_alloc ?_ _) | (with_reducible refine Kd.C_drewN ?_ _) | (with_reducible refine Kd.C_drew ?_))); (case side2 => exact HC0.out); rintro e w11 ⟨rfl, hb⟩; refine ⟨_, rfl, ?_⟩; have n0_ := Aside0.mk (zL (by repeat (first | (with_reducible first | exact HB.out | apply zC | apply zA | apply zB) | exact HB.out)) hb); clear HB; have HB := n0_; clear n0_; (try clear hb); (try clear hb2); (try clear hk); (try clear hi)) | ((with_reducible refine gate_callee (f := 31) rfl ?_); refine goesL_ (some 16) rfl rfl Tryd.func31 (by kernel_rfl) rfl #[.slice A0 l0.length c0] rfl (by (try simp only [List.map_toArray, List.map_cons, List.map_nil]); first | done | rfl | (simp only [List.length_drop, List.length_take]; rfl)) ?_; (with_reducible refine (clone_files.calls _ _ l0 t300 _ ?side1 ?side2 A4.out).mono ?_); (case side1 => repeat (first | exact (Kd.C_below HR0.out HB.out) | (with_reducible refine Kd.C_alloc ?_ _) | (with_reducible refine Kd.C_drewN ?_ _) | (with_reducible refine Kd.C_drew ?_))); (case side2 => exact HC0.out); rintro e w12 ⟨v301, rfl, ho0, hb⟩; refine ⟨_, rfl, ?_⟩; have n0_ := Aside0.mk (Kd.R_lower ho0 (zK (by repeat (first | (with_reducible first | exact HB.out | apply zC | apply zA | apply zB) | exact HB.out)))); have n1_ := Aside0.mk (zL (by repeat (first | (with_reducible first | exact HB.out | apply zC | apply zA | apply zB) | exact HB.out)) hb); clear HB; have HO302 := n0_; have HB := n1_; clear n0_ n1_; (try clear hb); (try clear hb2); (try clear hk); (try clear hi); (try clear ho0)))
  go_ret2
  exact ⟨_, by first | rfl | (simp [zO, zN] <;> rfl) | (simp [*, zO, zN] <;> rfl), by (with_reducible repeat (first | apply Kd.R_alloc | apply Kd.R_drewN | apply Kd.R_drew)); exact HO302.out, by repeat (first | (with_reducible first | exact HB.out | apply zC | apply zA | apply zB) | exact HB.out)⟩
def tree_Put.j0 : Nat → List (S50) → Int → Bool → ByteArray → ByteArray → Option ((List (S50)) × Int)
 | 0, _, _, _, _, _ => none
 | k + 1, x0, x6, x7, x307000, x307001 => (clone_files.f x0).bind fun t310 => (if x7 = true then (if 0 ≤ x6 then (if x6 < (t310.length : Int) then (some ((t310.set (x6 : Int).toNat (⟨x307000, x307001⟩ : S50)), 0)) else (none)) else (none)) else ((insert_files.f t310 x6 (([(⟨x307000, x307001⟩ : S50)] : List (S50)))).bind fun bt317 => (some (bt317.1, 0))))
def tree_Put.f (k : Nat) (l0 : List (S50)) (a1_0 : ByteArray) (a1_1 : ByteArray) : Option ((List (S50)) × Int) := (tree_find.f k l0 a1_0).bind fun bt307 => ((tree_Path.f k a1_0).bind fun t309 => (if t309 = true then (if (a1_1.size : Int) > 65536 then (some (([] : List (S50)), 4)) else (if bt307.2 = true then (tree_Put.j0 k l0 bt307.1 bt307.2 a1_0 a1_1) else (if (l0.length : Int) ≥ 1000 then (some (([] : List (S50)), 4)) else (tree_Put.j0 k l0 bt307.1 bt307.2 a1_0 a1_1)))) else (some (([] : List (S50)), 7))))
set_option maxHeartbeats 8000000 in
set_option maxRecDepth 100000 in
theorem tree_Put.calls (k : Nat) (A0 : Option Addr) (c0 : Nat) (l0 : List (S50)) (a1_0 : ByteArray) (a1_1 : ByteArray) (r1 : List (S50)) (r2 : Int) (w : World) (hr0 : Kd.C k50 w A0 l0.length l0) (hc0 : l0.length ≤ c0) (h : tree_Put.f k l0 a1_0 a1_1 = some (r1, r2)) :
  Calls Tryd.prog 33 #[.slice A0 l0.length c0, .agg #[.string a1_0, .string a1_1]] w fun e w' => ∃ v0_ : Value, e = .returned (.tuple #[v0_, .int .i64 r2]) ∧ Kd.R k50 50 w' w.heap.size (fun _ => True) v0_ r1 ∧ Below w.heap.size w w' := by
 have hu50 := Tryd.underlying50
 have HR0 := Aside0.mk hr0
 have HC0 := Aside0.mk hc0
 clear hr0 hc0
 have HB := Aside0.mk (Below.refl w.heap.size w)
 have H : ((tree_find.f k l0 a1_0).bind fun bt307 => ((tree_Path.f k a1_0).bind fun t309 => (if t309 = true then (if (a1_1.size : Int) > 65536 then (some (([] : List (S50)), 4)) else (if bt307.2 = true then (tree_Put.j0 k l0 bt307.1 bt307.2 a1_0 a1_1) else (if (l0.length : Int) ≥ 1000 then (some (([] : List (S50)), 4)) else (tree_Put.j0 k l0 bt307.1 bt307.2 a1_0 a1_1)))) else (some (([] : List (S50)), 7))))) = some (r1, r2) := h
 clear h
 replace H := Option.bind_eq_some_iff.mp H
 obtain ⟨⟨t307, t308⟩, A30, H⟩ := H
 replace H : ((tree_Path.f k a1_0).bind fun t309 => (if t309 = true then (if (a1_1.size : Int) > 65536 then (some (([] : List (S50)), 4)) else (if t308 = true then (tree_Put.j0 k l0 t307 t308 a1_0 a1_1) else (if (l0.length : Int) ≥ 1000 then (some (([] : List (S50)), 4)) else (tree_Put.j0 k l0 t307 t308 a1_0 a1_1)))) else (some (([] : List (S50)), 7)))) = some (r1, r2) := H
 have A3 := Aside0.mk A30
 clear A30
 have HC4 := Aside0.mk H
 clear H
 go_enter Tryd.func33, Tryd.ntmps33
 go_upto_block 0 with (first | ((with_reducible refine gate_dst (N := 3) rfl ?_); (try (refine gate_guard (by rfl) ?_; dsimp only)); refine box_event ?hg (N := 3) ?hd (cs := #[.string a1_0, .string a1_1]) (t := 50) ?hr ?_; (case hd => rfl); (case hg => rfl); (case hr => first | (go_simp; done) | (go_simp; rfl)); intro gb306 hg w5 hbox hb; have n0_ := Aside0.mk (zL (by repeat (first | (with_reducible first | exact HB.out | apply zC | apply zA | apply zB) | exact HB.out)) hb); have n1_ := Aside0.mk (hbox); have n2_ := Aside0.mk ((by rw [hg]; exact (zK (by repeat (first | (with_reducible first | exact HB.out | apply zC | apply zA | apply zB) | exact HB.out))) : w.heap.size ≤ gb306)); have n3_ := Aside0.mk ((by rw [hg]; exact (zK (by repeat (first | (with_reducible first | exact HB.out | apply zC | apply zA | apply zB) | exact HB.out))) : w.heap.size ≤ gb306)); clear HB; have HB := n0_; have BK306 := n1_; have GW306 := n2_; have GE306 := n3_; clear n0_ n1_ n2_ n3_; clear hb hbox hg; have hcz6_0 : w5.cell? ⟨gb306, 0, none⟩ = some (.string a1_0) := (zD BK306.out 0).trans rfl; have hcz6_1 : w5.cell? ⟨gb306, 1, none⟩ = some (.string a1_1) := (zD BK306.out 1).trans rfl; have hfz6_0 := zH BK306.out 0; have hfz6_1 := zH BK306.out 1) | ((with_reducible refine gate_callee (f := 51) rfl ?_); refine goesL_ (some 13) rfl rfl Tryd.func51 (by kernel_rfl) rfl #[.slice A0 l0.length c0, .string a1_0] rfl (by (try simp only [List.map_toArray, List.map_cons, List.map_nil]); first | done | rfl | (simp only [List.length_drop, List.length_take]; rfl)) ?_; (with_reducible refine (tree_find.calls k _ _ l0 a1_0 t307 t308 _ ?side1 ?side2 A3.out).mono ?_); (case side1 => repeat (first | exact (Kd.C_below HR0.out HB.out) | (with_reducible refine Kd.C_alloc ?_ _) | (with_reducible refine Kd.C_drewN ?_ _) | (with_reducible refine Kd.C_drew ?_))); (case side2 => exact HC0.out); rintro e w7 ⟨rfl, hb⟩; refine ⟨_, rfl, ?_⟩; have n0_ := Aside0.mk (zM (g := gb306) (o := .cells #[.string a1_0, .string a1_1] 50 (0, 0)) (by (with_reducible repeat (first | refine zG ?_ _ | refine zI ?_ | refine zF ?_ _)); exact BK306.out) hb); have n1_ := Aside0.mk (zL (by repeat (first | (with_reducible first | exact HB.out | apply zC | apply zA | apply zB | refine zE ?_ GE306.out) | exact HB.out)) hb); clear BK306; clear HB; have BK306 := n0_; have HB := n1_; clear n0_ n1_; (try clear hb); (try clear hb2); (try clear hk); (try clear hi)))
 (try simp only [Act.put, List.setIfInBounds_toArray, List.set_cons_zero, List.set_cons_succ])
 go_cut [] (fun wc => ∃ (kq : Nat), Aside0 (tree_Put.j0 kq l0 t307 t308 a1_0 a1_1 = some (r1, r2)) ∧ Aside0 (kq ≤ k) ∧ Aside0 (wc.heap[gb306]? = some (.cells #[.string a1_0, .string a1_1] 50 (0, 0))) ∧ Aside0 (Below w.heap.size w wc))
 case first =>
  have H := HC4.out
  clear HC4
  replace H := Option.bind_eq_some_iff.mp H
  obtain ⟨t309, A80, H⟩ := H
  replace H : (if t309 = true then (if (a1_1.size : Int) > 65536 then (some (([] : List (S50)), 4)) else (if t308 = true then (tree_Put.j0 k l0 t307 t308 a1_0 a1_1) else (if (l0.length : Int) ≥ 1000 then (some (([] : List (S50)), 4)) else (tree_Put.j0 k l0 t307 t308 a1_0 a1_1)))) else (some (([] : List (S50)), 7))) = some (r1, r2) := H
  have A8 := Aside0.mk A80
  clear A80
  by_cases c9 : t309 = true
  ·
   subst c9
   have H1 : (if (a1_1.size : Int) > 65536 then (some (([] : List (S50)), 4)) else (if t308 = true then (tree_Put.j0 k l0 t307 t308 a1_0 a1_1) else (if (l0.length : Int) ≥ 1000 then (some (([] : List (S50)), 4)) else (tree_Put.j0 k l0 t307 t308 a1_0 a1_1)))) = some (r1, r2) := by rw [if_pos rfl] at H; exact H
   clear H
   have H := H1
   clear H1
   by_cases c10 : (a1_1.size : Int) > 65536
   ·
    rw [if_pos c10] at H
    have c10b0 : decide (65536 < (a1_1.size : Int)) = true := decide_eq_true c10
    have c10b1 : decide (65536 < a1_1.size) = true := decide_eq_true (by omega)
    clear c10
    (first | rw [c10b0] | (simp only [i64_w, i32_w]; rw [c10b0]) | skip)
    simp only [Option.some.injEq, Prod.mk.injEq] at H
    obtain ⟨rfl, rfl⟩ := H
    have hcz11_0 : w7.cell? ⟨gb306, 0, none⟩ = some (.string a1_0) := (zD BK306.out 0).trans rfl
    have hcz11_1 : w7.cell? ⟨gb306, 1, none⟩ = some (.string a1_1) := (zD BK306.out 1).trans rfl
    have hfz11_0 := zH BK306.out 0
    have hfz11_1 := zH BK306.out 1
    go_wp2_with (first | ((with_reducible refine gate_callee (f := 35) rfl ?_); refine goesL_ (some 19) rfl rfl Tryd.func35 (by kernel_rfl) rfl #[.string a1_0] rfl (by (try simp only [List.map_toArray, List.map_cons, List.map_nil]); first | done | rfl | (simp only [List.length_drop, List.length_take]; rfl)) ?_; (with_reducible refine (tree_Path.calls k a1_0 true _ A8.out).mono ?_); rintro e w12 ⟨rfl, hb⟩; refine ⟨_, rfl, ?_⟩; have n0_ := Aside0.mk (zM (g := gb306) (o := .cells #[.string a1_0, .string a1_1] 50 (0, 0)) (by (with_reducible repeat (first | refine zG ?_ _ | refine zI ?_ | refine zF ?_ _)); exact BK306.out) hb); have n1_ := Aside0.mk (zL (by repeat (first | (with_reducible first | exact HB.out | apply zC | apply zA | apply zB | refine zE ?_ GE306.out) | exact HB.out)) hb); clear BK306; clear HB; have BK306 := n0_; have HB := n1_; clear n0_ n1_; (try clear hb); (try clear hb2); (try clear hk); (try clear hi); have hcz13_0 : w12.cell? ⟨gb306, 0, none⟩ = some (.string a1_0) := (zD BK306.out 0).trans rfl; have hcz13_1 : w12.cell? ⟨gb306, 1, none⟩ = some (.string a1_1) := (zD BK306.out 1).trans rfl; have hfz13_0 := zH BK306.out 0; have hfz13_1 := zH BK306.out 1))
    go_ret2
    exact ⟨_, by first | rfl | (simp [zO, zN] <;> rfl) | (simp [*, zO, zN] <;> rfl), by first | exact Kd.R_nil _ _ _ _ _ | exact Kd.N_nil _ _ _ _ _ | exact Kd.V_nil _ _ _ _ _ | exact Kd.Q_nil _ _ _ _ _ | exact Kd.S_nil _ _ _ _ _, by repeat (first | (with_reducible first | exact HB.out | apply zC | apply zA | apply zB | refine zE ?_ GE306.out) | exact HB.out)⟩
   ·
    rw [if_neg c10] at H
    have c10b0 : decide (65536 < (a1_1.size : Int)) = false := decide_eq_false c10
    have c10b1 : decide (65536 < a1_1.size) = false := decide_eq_false (by omega)
    clear c10
    (first | rw [c10b0] | (simp only [i64_w, i32_w]; rw [c10b0]) | skip)
    by_cases c14 : t308 = true
    ·
     subst c14
     have H1 : (tree_Put.j0 k l0 t307 true a1_0 a1_1) = some (r1, r2) := by rw [if_pos rfl] at H; exact H
     clear H
     have H := H1
     clear H1
     have H' := Aside0.mk H
     clear H
     have hcz15_0 : w7.cell? ⟨gb306, 0, none⟩ = some (.string a1_0) := (zD BK306.out 0).trans rfl
     have hcz15_1 : w7.cell? ⟨gb306, 1, none⟩ = some (.string a1_1) := (zD BK306.out 1).trans rfl
     have hfz15_0 := zH BK306.out 0
     have hfz15_1 := zH BK306.out 1
     go_wp2_with (first | ((with_reducible refine gate_callee (f := 35) rfl ?_); refine goesL_ (some 19) rfl rfl Tryd.func35 (by kernel_rfl) rfl #[.string a1_0] rfl (by (try simp only [List.map_toArray, List.map_cons, List.map_nil]); first | done | rfl | (simp only [List.length_drop, List.length_take]; rfl)) ?_; (with_reducible refine (tree_Path.calls k a1_0 true _ A8.out).mono ?_); rintro e w16 ⟨rfl, hb⟩; refine ⟨_, rfl, ?_⟩; have n0_ := Aside0.mk (zM (g := gb306) (o := .cells #[.string a1_0, .string a1_1] 50 (0, 0)) (by (with_reducible repeat (first | refine zG ?_ _ | refine zI ?_ | refine zF ?_ _)); exact BK306.out) hb); have n1_ := Aside0.mk (zL (by repeat (first | (with_reducible first | exact HB.out | apply zC | apply zA | apply zB | refine zE ?_ GE306.out) | exact HB.out)) hb); clear BK306; clear HB; have BK306 := n0_; have HB := n1_; clear n0_ n1_; (try clear hb); (try clear hb2); (try clear hk); (try clear hi); have hcz17_0 : w16.cell? ⟨gb306, 0, none⟩ = some (.string a1_0) := (zD BK306.out 0).trans rfl; have hcz17_1 : w16.cell? ⟨gb306, 1, none⟩ = some (.string a1_1) := (zD BK306.out 1).trans rfl; have hfz17_0 := zH BK306.out 0; have hfz17_1 := zH BK306.out 1))
     go_meet
     case rel => exact ⟨_, H', ⟨by first | omega | exact Nat.le_refl _⟩, ⟨by (with_reducible repeat (first | refine zG ?_ _ | refine zI ?_ | refine zF ?_ _)); exact BK306.out⟩, ⟨by repeat (first | (with_reducible first | exact HB.out | apply zC | apply zA | apply zB | refine zE ?_ GE306.out) | exact HB.out)⟩⟩
    ·
     replace c14 := Bool.eq_false_iff.mpr c14
     subst c14
     have H1 : (if (l0.length : Int) ≥ 1000 then (some (([] : List (S50)), 4)) else (tree_Put.j0 k l0 t307 false a1_0 a1_1)) = some (r1, r2) := by rw [if_neg (show ¬ (false = true) by decide)] at H; exact H
     clear H
     have H := H1
     clear H1
     by_cases c18 : (l0.length : Int) ≥ 1000
     ·
      rw [if_pos c18] at H
      have c18b0 : decide (1000 ≤ (l0.length : Int)) = true := decide_eq_true c18
      have c18b1 : decide (1000 ≤ l0.length) = true := decide_eq_true (by omega)
      clear c18
      simp only [Option.some.injEq, Prod.mk.injEq] at H
      obtain ⟨rfl, rfl⟩ := H
      have hcz19_0 : w7.cell? ⟨gb306, 0, none⟩ = some (.string a1_0) := (zD BK306.out 0).trans rfl
      have hcz19_1 : w7.cell? ⟨gb306, 1, none⟩ = some (.string a1_1) := (zD BK306.out 1).trans rfl
      have hfz19_0 := zH BK306.out 0
      have hfz19_1 := zH BK306.out 1
      go_wp2_with (first | ((with_reducible refine gate_callee (f := 35) rfl ?_); refine goesL_ (some 19) rfl rfl Tryd.func35 (by kernel_rfl) rfl #[.string a1_0] rfl (by (try simp only [List.map_toArray, List.map_cons, List.map_nil]); first | done | rfl | (simp only [List.length_drop, List.length_take]; rfl)) ?_; (with_reducible refine (tree_Path.calls k a1_0 true _ A8.out).mono ?_); rintro e w20 ⟨rfl, hb⟩; refine ⟨_, rfl, ?_⟩; have n0_ := Aside0.mk (zM (g := gb306) (o := .cells #[.string a1_0, .string a1_1] 50 (0, 0)) (by (with_reducible repeat (first | refine zG ?_ _ | refine zI ?_ | refine zF ?_ _)); exact BK306.out) hb); have n1_ := Aside0.mk (zL (by repeat (first | (with_reducible first | exact HB.out | apply zC | apply zA | apply zB | refine zE ?_ GE306.out) | exact HB.out)) hb); clear BK306; clear HB; have BK306 := n0_; have HB := n1_; clear n0_ n1_; (try clear hb); (try clear hb2); (try clear hk); (try clear hi); have hcz21_0 : w20.cell? ⟨gb306, 0, none⟩ = some (.string a1_0) := (zD BK306.out 0).trans rfl; have hcz21_1 : w20.cell? ⟨gb306, 1, none⟩ = some (.string a1_1) := (zD BK306.out 1).trans rfl; have hfz21_0 := zH BK306.out 0; have hfz21_1 := zH BK306.out 1))
      go_ret2
      exact ⟨_, by first | rfl | (simp [zO, zN] <;> rfl) | (simp [*, zO, zN] <;> rfl), by first | exact Kd.R_nil _ _ _ _ _ | exact Kd.N_nil _ _ _ _ _ | exact Kd.V_nil _ _ _ _ _ | exact Kd.Q_nil _ _ _ _ _ | exact Kd.S_nil _ _ _ _ _, by repeat (first | (with_reducible first | exact HB.out | apply zC | apply zA | apply zB | refine zE ?_ GE306.out) | exact HB.out)⟩
     ·
      rw [if_neg c18] at H
      have c18b0 : decide (1000 ≤ (l0.length : Int)) = false := decide_eq_false c18
      have c18b1 : decide (1000 ≤ l0.length) = false := decide_eq_false (by omega)
      clear c18
      have H' := Aside0.mk H
      clear H
      have hcz22_0 : w7.cell? ⟨gb306, 0, none⟩ = some (.string a1_0) := (zD BK306.out 0).trans rfl
      have hcz22_1 : w7.cell? ⟨gb306, 1, none⟩ = some (.string a1_1) := (zD BK306.out 1).trans rfl
      have hfz22_0 := zH BK306.out 0
      have hfz22_1 := zH BK306.out 1
      go_wp2_with (first | ((with_reducible refine gate_callee (f := 35) rfl ?_); refine goesL_ (some 19) rfl rfl Tryd.func35 (by kernel_rfl) rfl #[.string a1_0] rfl (by (try simp only [List.map_toArray, List.map_cons, List.map_nil]); first | done | rfl | (simp only [List.length_drop, List.length_take]; rfl)) ?_; (with_reducible refine (tree_Path.calls k a1_0 true _ A8.out).mono ?_); rintro e w23 ⟨rfl, hb⟩; refine ⟨_, rfl, ?_⟩; have n0_ := Aside0.mk (zM (g := gb306) (o := .cells #[.string a1_0, .string a1_1] 50 (0, 0)) (by (with_reducible repeat (first | refine zG ?_ _ | refine zI ?_ | refine zF ?_ _)); exact BK306.out) hb); have n1_ := Aside0.mk (zL (by repeat (first | (with_reducible first | exact HB.out | apply zC | apply zA | apply zB | refine zE ?_ GE306.out) | exact HB.out)) hb); clear BK306; clear HB; have BK306 := n0_; have HB := n1_; clear n0_ n1_; (try clear hb); (try clear hb2); (try clear hk); (try clear hi); have hcz24_0 : w23.cell? ⟨gb306, 0, none⟩ = some (.string a1_0) := (zD BK306.out 0).trans rfl; have hcz24_1 : w23.cell? ⟨gb306, 1, none⟩ = some (.string a1_1) := (zD BK306.out 1).trans rfl; have hfz24_0 := zH BK306.out 0; have hfz24_1 := zH BK306.out 1))
      go_meet
      case rel => exact ⟨_, H', ⟨by first | omega | exact Nat.le_refl _⟩, ⟨by (with_reducible repeat (first | refine zG ?_ _ | refine zI ?_ | refine zF ?_ _)); exact BK306.out⟩, ⟨by repeat (first | (with_reducible first | exact HB.out | apply zC | apply zA | apply zB | refine zE ?_ GE306.out) | exact HB.out)⟩⟩
  ·
   replace c9 := Bool.eq_false_iff.mpr c9
   subst c9
   have H1 : (some (([] : List (S50)), 7)) = some (r1, r2) := by rw [if_neg (show ¬ (false = true) by decide)] at H; exact H
   clear H
   have H := H1
   clear H1
   simp only [Option.some.injEq, Prod.mk.injEq] at H
   obtain ⟨rfl, rfl⟩ := H
   have hcz25_0 : w7.cell? ⟨gb306, 0, none⟩ = some (.string a1_0) := (zD BK306.out 0).trans rfl
   have hcz25_1 : w7.cell? ⟨gb306, 1, none⟩ = some (.string a1_1) := (zD BK306.out 1).trans rfl
   have hfz25_0 := zH BK306.out 0
   have hfz25_1 := zH BK306.out 1
   go_wp2_with (first | ((with_reducible refine gate_callee (f := 35) rfl ?_); refine goesL_ (some 19) rfl rfl Tryd.func35 (by kernel_rfl) rfl #[.string a1_0] rfl (by (try simp only [List.map_toArray, List.map_cons, List.map_nil]); first | done | rfl | (simp only [List.length_drop, List.length_take]; rfl)) ?_; (with_reducible refine (tree_Path.calls k a1_0 false _ A8.out).mono ?_); rintro e w26 ⟨rfl, hb⟩; refine ⟨_, rfl, ?_⟩; have n0_ := Aside0.mk (zM (g := gb306) (o := .cells #[.string a1_0, .string a1_1] 50 (0, 0)) (by (with_reducible repeat (first | refine zG ?_ _ | refine zI ?_ | refine zF ?_ _)); exact BK306.out) hb); have n1_ := Aside0.mk (zL (by repeat (first | (with_reducible first | exact HB.out | apply zC | apply zA | apply zB | refine zE ?_ GE306.out) | exact HB.out)) hb); clear BK306; clear HB; have BK306 := n0_; have HB := n1_; clear n0_ n1_; (try clear hb); (try clear hb2); (try clear hk); (try clear hi)))
   go_ret2
   exact ⟨_, by first | rfl | (simp [zO, zN] <;> rfl) | (simp [*, zO, zN] <;> rfl), by first | exact Kd.R_nil _ _ _ _ _ | exact Kd.N_nil _ _ _ _ _ | exact Kd.V_nil _ _ _ _ _ | exact Kd.Q_nil _ _ _ _ _ | exact Kd.S_nil _ _ _ _ _, by repeat (first | (with_reducible first | exact HB.out | apply zC | apply zA | apply zB | refine zE ?_ GE306.out) | exact HB.out)⟩
 case rest =>
  clear HC4
  try clear c1
  try clear p2
  try clear c3
  try clear c5
  try clear c9
  try clear c10
  try clear c10b0
  try clear c10b1
  try clear c14
  try clear c18
  try clear c18b0
  try clear c18b1
  try clear hcz11_0
  try clear hcz11_1
  try clear hcz13_0
  try clear hcz13_1
  try clear hcz15_0
  try clear hcz15_1
  try clear hcz17_0
  try clear hcz17_1
  try clear hcz19_0
  try clear hcz19_1
  try clear hcz21_0
  try clear hcz21_1
  try clear hcz22_0
  try clear hcz22_1
  try clear hcz24_0
  try clear hcz24_1
  try clear hcz25_0
  try clear hcz25_1
  try clear hcz6_0
  try clear hcz6_1
  try clear hfz11_0
  try clear hfz11_1
  try clear hfz13_0
  try clear hfz13_1
  try clear hfz15_0
  try clear hfz15_1
  try clear hfz17_0
  try clear hfz17_1
  try clear hfz19_0
  try clear hfz19_1
  try clear hfz21_0
  try clear hfz21_1
  try clear hfz22_0
  try clear hfz22_1
  try clear hfz24_0
  try clear hfz24_1
  try clear hfz25_0
  try clear hfz25_1
  try clear hfz6_0
  try clear hfz6_1
  obtain ⟨kq, HA, HJ3, BK306, HB⟩ := hcut
  cases kq with
  | zero => exact absurd HA.out (by simp [tree_Put.j0])
  | succ kj3 =>
   have H := HA.out
   clear HA
   simp only [tree_Put.j0] at H
   replace H := Option.bind_eq_some_iff.mp H
   obtain ⟨t310, A270, H⟩ := H
   replace H : (if t308 = true then (if 0 ≤ t307 then (if t307 < (t310.length : Int) then (some ((t310.set (t307 : Int).toNat (⟨a1_0, a1_1⟩ : S50)), 0)) else (none)) else (none)) else ((insert_files.f t310 t307 (([(⟨a1_0, a1_1⟩ : S50)] : List (S50)))).bind fun bt317 => (some (bt317.1, 0)))) = some (r1, r2) := H
   have A27 := Aside0.mk A270
   clear A270
   by_cases c28 : t308 = true
   ·
    subst c28
    have H1 : (if 0 ≤ t307 then (if t307 < (t310.length : Int) then (some ((t310.set (t307 : Int).toNat (⟨a1_0, a1_1⟩ : S50)), 0)) else (none)) else (none)) = some (r1, r2) := by rw [if_pos rfl] at H; exact H
    clear H
    have H := H1
    clear H1
    by_cases c29 : 0 ≤ t307
    ·
     rw [if_pos c29] at H
     have c29b0 : decide (0 ≤ t307) = true := decide_eq_true c29
     clear c29
     by_cases c30 : t307 < (t310.length : Int)
     ·
      rw [if_pos c30] at H
      have c30b0 : decide (t307 < (t310.length : Int)) = true := decide_eq_true c30
      clear c30
      obtain ⟨y313, hy313⟩ : ∃ y_ : List (S50), y_ = (t310.set (t307 : Int).toNat (⟨a1_0, a1_1⟩ : S50)) := ⟨_, rfl⟩
      replace H : (some (y313, 0)) = some (r1, r2) := by first | (rw [hy313]; with_reducible exact H) | (have H2_ := (Option.bind_some _ _).symm.trans H; rw [hy313]; with_reducible exact H2_) | (have H2_ := (Option.bind_some _ _).symm.trans H; with_reducible exact H2_) | with_reducible exact H | (rw [hy313]; exact H) | exact H
      have Ny313 := Aside0.mk hy313
      clear hy313
      simp only [Option.some.injEq, Prod.mk.injEq] at H
      obtain ⟨rfl, rfl⟩ := H
      go_wp2_with (first | ((with_reducible refine gate_callee (f := 31) rfl ?_); refine goesL_ (some 36) rfl rfl Tryd.func31 (by kernel_rfl) rfl #[.slice A0 l0.length c0] rfl (by (try simp only [List.map_toArray, List.map_cons, List.map_nil]); first | done | rfl | (simp only [List.length_drop, List.length_take]; rfl)) ?_; (with_reducible refine (clone_files.calls _ _ l0 t310 _ ?side1 ?side2 A27.out).mono ?_); (case side1 => repeat (first | exact (Kd.C_below HR0.out HB.out) | (with_reducible refine Kd.C_alloc ?_ _) | (with_reducible refine Kd.C_drewN ?_ _) | (with_reducible refine Kd.C_drew ?_))); (case side2 => exact HC0.out); rintro e w32 ⟨v311, rfl, ho0, hb⟩; refine ⟨_, rfl, ?_⟩; have n0_ := Aside0.mk (Kd.R_lower (Kd.R_newB ho0 (g := gb306) (o := .cells #[.string a1_0, .string a1_1] 50 (0, 0)) (by (with_reducible repeat (first | refine zG ?_ _ | refine zI ?_ | refine zF ?_ _)); exact BK306.out)) (zK (by repeat (first | (with_reducible first | exact HB.out | apply zC | apply zA | apply zB | refine zE ?_ GE306.out) | exact HB.out)))); have n1_ := Aside0.mk (zM (g := gb306) (o := .cells #[.string a1_0, .string a1_1] 50 (0, 0)) (by (with_reducible repeat (first | refine zG ?_ _ | refine zI ?_ | refine zF ?_ _)); exact BK306.out) hb); have n2_ := Aside0.mk (zL (by repeat (first | (with_reducible first | exact HB.out | apply zC | apply zA | apply zB | refine zE ?_ GE306.out) | exact HB.out)) hb); clear BK306; clear HB; have HO312 := n0_; have BK306 := n1_; have HB := n2_; clear n0_ n1_ n2_; (try clear hb); (try clear hb2); (try clear hk); (try clear hi); (try clear ho0); have hcz33_0 : w32.cell? ⟨gb306, 0, none⟩ = some (.string a1_0) := (zD BK306.out 0).trans rfl; have hcz33_1 : w32.cell? ⟨gb306, 1, none⟩ = some (.string a1_1) := (zD BK306.out 1).trans rfl; have hfz33_0 := zH BK306.out 0; have hfz33_1 := zH BK306.out 1; have p31 : 0 ≤ (t307 : Int) := of_decide_eq_true (by first | (with_reducible assumption) | assumption); have q31 : (t307 : Int) < ((t310.length : Int) : Int) := of_decide_eq_true (by first | (with_reducible assumption) | assumption); obtain ⟨go31, co31, eo31, gb31, gl31, cl31, HG31⟩ := Kd.R_form HO312.out (by omega); (first | cases eo31 | (injection eo31 with ea_ en_ ec_; (first | subst ea_ | (injection ea_ with ea_; subst ea_)); subst ec_; clear en_)); have GB31 := Aside0.mk gb31; have GG31 := Aside0.mk HG31; clear gb31 gl31 HG31; obtain ⟨ce31, hcl31, hM31, hcc31, hfr31⟩ := Kd.R_elem HO312.out z50 (t307 : Int) p31 q31; obtain rfl := k50_openM hM31; have hx31_0 : w32.cell? ⟨go31, (t307 : Int).toNat * 2, none⟩ = some (.string ((zQ t310 t307).f0)) := hcc31 0 _ rfl; have hx31_1 : w32.cell? ⟨go31, (t307 : Int).toNat * 2 + 1, none⟩ = some (.string ((zQ t310 t307).f1)) := hcc31 1 _ rfl; have hf31_0 : w32.frozen? ⟨go31, (t307 : Int).toNat * 2, none⟩ = false := hfr31 0; have hf31_1 : w32.frozen? ⟨go31, (t307 : Int).toNat * 2 + 1, none⟩ = false := hfr31 1; clear hcl31 hcc31 hfr31 hM31; replace p31 := eq_true p31; replace q31 := eq_true q31; have n_ := Aside0.mk (Kd.R_mono (ok' := (fun k_ => k_ ≠ gb306)) HO312.out (fun k_ hk => hk.2)); clear HO312; have HO312 := n_; clear n_; have HX34 := Aside0.mk (show Kd.R k50 50 w32 w.heap.size (fun k_ => k_ ≠ gb306) (.slice (some ⟨go31, 0, none⟩) t310.length co31) t310 from (by (with_reducible repeat (first | apply Kd.R_alloc | apply Kd.R_drewN | apply Kd.R_drew)); exact HO312.out)); obtain ⟨ce34, hcl34, hM34, hcc34, hfr34⟩ := Kd.R_elem HX34.out z50 (t307 : Int) (of_decide_eq_true (by first | (with_reducible assumption) | assumption)) (by have h_ : (t307 : Int) < ((t310.length : Int) : Int) := of_decide_eq_true (by first | (with_reducible assumption) | assumption); first | exact h_ | (have e_ := (Kd.R_reads' HO312.out).1; omega) | simpa using h_); obtain rfl := k50_openM hM34; have HP34 := Kd.R_seg HX34.out (t307 : Int) (of_decide_eq_true (by first | (with_reducible assumption) | assumption)) (by have h_ : (t307 : Int) < ((t310.length : Int) : Int) := of_decide_eq_true (by first | (with_reducible assumption) | assumption); first | exact h_ | (have e_ := (Kd.R_reads' HO312.out).1; omega) | simpa using h_) (seg := [.string a1_0, .string a1_1]) (j := 0) hcl34 hcc34 (show 2 ≤ 2 from by decide) (x' := (⟨a1_0, a1_1⟩ : S50)) (k50_mkM _ _ _ (⟨a1_0, a1_1⟩ : S50) ) (fun _ hk => hk); have hx34_0 := hcc34 0 _ rfl; (try simp only [show (k50).sz = 2 from rfl, Nat.mul_one, Nat.add_zero] at hx34_0); have hf34_0 := hfr34 0; (try simp only [show (k50).sz = 2 from rfl, Nat.mul_one, Nat.add_zero] at hf34_0); have hx34_1 := hcc34 1 _ rfl; (try simp only [show (k50).sz = 2 from rfl, Nat.mul_one, Nat.add_zero] at hx34_1); have hf34_1 := hfr34 1; (try simp only [show (k50).sz = 2 from rfl, Nat.mul_one, Nat.add_zero] at hf34_1); clear hcl34 hcc34 hfr34 hM34) | ((with_reducible refine gate_store (t := 50) (p := 41) rfl ?_); refine store_event (t := 50) (p := 41) (v := ?vo_w35) (w1 := ((w32.setCell ⟨go31, (t307 : Int).toNat * 2, none⟩ (.string a1_0)).setCell ⟨go31, (t307 : Int).toNat * 2 + 1, none⟩ (.string a1_1))) ?hg ?ho ?hn ?hr ?_; (case ho => rfl); (case hg => rfl); (case hn => rfl); (case hr => first | (go_simp; done) | (go_simp; rfl)); intro w35 hw; have hg : w32.grownBy w35 (some go31) := (by rw [hw]; exact HP34.2); have hp_ : Kd.R k50 50 w35 w.heap.size (fun k_ => k_ ≠ gb306) (.slice (some ⟨go31, 0, none⟩) t310.length co31) y313 := (by rw [hw, Ny313.out]; exact HP34.1); clear HP34; have n0_ := Aside0.mk (blk_grown (g := gb306) (o := .cells #[.string a1_0, .string a1_1] 50 (0, 0)) (by (with_reducible repeat (first | refine zG ?_ _ | refine zI ?_ | refine zF ?_ _)); exact BK306.out) hg (Kd.R_away HO312.out (fun _ hk => hk))); have n1_ := Aside0.mk (hp_); have n2_ := Aside0.mk ((by rw [hw]; exact zE (zE (HB.out) GB31.out) GB31.out : Below w.heap.size w w35)); clear BK306; clear HO312; clear HB; have BK306 := n0_; have HO312 := n1_; have HB := n2_; clear n0_ n1_ n2_; clear hg hw hp_))
      go_ret2
      exact ⟨_, by first | rfl | (simp [zO, zN] <;> rfl) | (simp [*, zO, zN] <;> rfl), by (with_reducible repeat (first | apply Kd.R_alloc | apply Kd.R_drewN | apply Kd.R_drew)); exact Kd.R_mono HO312.out (fun _ hk => trivial), by repeat (first | (with_reducible first | exact HB.out | apply zC | apply zA | apply zB | refine zE ?_ GE306.out) | exact HB.out)⟩
     ·
      rw [if_neg c30] at H
      exact absurd H (by simp)
    ·
     rw [if_neg c29] at H
     exact absurd H (by simp)
   ·
    replace c28 := Bool.eq_false_iff.mpr c28
    subst c28
    have H1 : ((insert_files.f t310 t307 (([(⟨a1_0, a1_1⟩ : S50)] : List (S50)))).bind fun bt317 => (some (bt317.1, 0))) = some (r1, r2) := by rw [if_neg (show ¬ (false = true) by decide)] at H; exact H
    clear H
    have H := H1
    clear H1
    obtain ⟨y314, hy314⟩ : ∃ y_ : List (S50), y_ = (([(⟨a1_0, a1_1⟩ : S50)] : List (S50))) := ⟨_, rfl⟩
    replace H : ((insert_files.f t310 t307 y314).bind fun bt317 => (some (bt317.1, 0))) = some (r1, r2) := by first | (rw [hy314]; with_reducible exact H) | (have H2_ := (Option.bind_some _ _).symm.trans H; rw [hy314]; with_reducible exact H2_) | (have H2_ := (Option.bind_some _ _).symm.trans H; with_reducible exact H2_) | with_reducible exact H | (rw [hy314]; exact H) | exact H
    have Ny314 := Aside0.mk hy314
    clear hy314
    replace H := Option.bind_eq_some_iff.mp H
    obtain ⟨⟨t317, t320⟩, A360, H⟩ := H
    replace H : (some (t317, 0)) = some (r1, r2) := H
    have A36 := Aside0.mk A360
    clear A360
    simp only [Option.some.injEq, Prod.mk.injEq] at H
    obtain ⟨rfl, rfl⟩ := H
    go_wp2_with (first | ((with_reducible refine gate_callee (f := 31) rfl ?_); refine goesL_ (some 36) rfl rfl Tryd.func31 (by kernel_rfl) rfl #[.slice A0 l0.length c0] rfl (by (try simp only [List.map_toArray, List.map_cons, List.map_nil]); first | done | rfl | (simp only [List.length_drop, List.length_take]; rfl)) ?_; (with_reducible refine (clone_files.calls _ _ l0 t310 _ ?side1 ?side2 A27.out).mono ?_); (case side1 => repeat (first | exact (Kd.C_below HR0.out HB.out) | (with_reducible refine Kd.C_alloc ?_ _) | (with_reducible refine Kd.C_drewN ?_ _) | (with_reducible refine Kd.C_drew ?_))); (case side2 => exact HC0.out); rintro e w37 ⟨v311, rfl, ho0, hb⟩; refine ⟨_, rfl, ?_⟩; have n0_ := Aside0.mk (Kd.R_lower (Kd.R_newB ho0 (g := gb306) (o := .cells #[.string a1_0, .string a1_1] 50 (0, 0)) (by (with_reducible repeat (first | refine zG ?_ _ | refine zI ?_ | refine zF ?_ _)); exact BK306.out)) (zK (by repeat (first | (with_reducible first | exact HB.out | apply zC | apply zA | apply zB | refine zE ?_ GE306.out) | exact HB.out)))); have n1_ := Aside0.mk (zM (g := gb306) (o := .cells #[.string a1_0, .string a1_1] 50 (0, 0)) (by (with_reducible repeat (first | refine zG ?_ _ | refine zI ?_ | refine zF ?_ _)); exact BK306.out) hb); have n2_ := Aside0.mk (zL (by repeat (first | (with_reducible first | exact HB.out | apply zC | apply zA | apply zB | refine zE ?_ GE306.out) | exact HB.out)) hb); clear BK306; clear HB; have HO312 := n0_; have BK306 := n1_; have HB := n2_; clear n0_ n1_ n2_; (try clear hb); (try clear hb2); (try clear hk); (try clear hi); (try clear ho0); have hcz38_0 : w37.cell? ⟨gb306, 0, none⟩ = some (.string a1_0) := (zD BK306.out 0).trans rfl; have hcz38_1 : w37.cell? ⟨gb306, 1, none⟩ = some (.string a1_1) := (zD BK306.out 1).trans rfl; have hfz38_0 := zH BK306.out 0; have hfz38_1 := zH BK306.out 1) | ((with_reducible refine gate_dst (N := 46) rfl ?_); (try (refine gate_guard (by rfl) ?_; dsimp only)); refine Kd.R_lit k50 _ 50 ?hg (N := 46) ?hd (xs := ([(⟨a1_0, a1_1⟩ : S50)] : List (S50))) (inner := [.string a1_0, .string a1_1]) (ok := fun _ => True) (okp := fun _ => True) ?hr ?hp (fun _ hk => hk) trivial (Below.refl _ _) (Nat.le_refl _) (by simp) ?_; (case hd => rfl); (case hg => rfl); (case hr => first | (go_simp; done) | (go_simp; rfl)); (case hp => exact (Reps.c2 (show Kd.M k50 _ _ _ (⟨a1_0, a1_1⟩ : S50) [.string a1_0, .string a1_1] from (k50_mkM _ _ _ (⟨a1_0, a1_1⟩ : S50) )) (Reps.none _ _))); intro v315 w39 ho40 hb hg_ hnew_; clear hg_ hnew_; (first | rw [← Ny314.out] at ho40 | (simp only [Int.reduceToNat] at ho40; rw [← Ny314.out] at ho40)); have n0_ := Aside0.mk (Kd.R_elder' (by (with_reducible repeat (first | apply Kd.R_alloc | apply Kd.R_drewN | apply Kd.R_drew)); exact HO312.out) (Kd.R_base ho40) hb); have n1_ := Aside0.mk (Kd.R_lower (Kd.R_newB (Kd.R_new' ho40 (Kd.R_lt (by (with_reducible repeat (first | apply Kd.R_alloc | apply Kd.R_drewN | apply Kd.R_drew)); exact HO312.out))) (g := gb306) (o := .cells #[.string a1_0, .string a1_1] 50 (0, 0)) (by (with_reducible repeat (first | refine zG ?_ _ | refine zI ?_ | refine zF ?_ _)); exact BK306.out)) (zK (by repeat (first | (with_reducible first | exact HB.out | apply zC | apply zA | apply zB | refine zE ?_ GE306.out) | exact HB.out)))); have n2_ := Aside0.mk (zM (g := gb306) (o := .cells #[.string a1_0, .string a1_1] 50 (0, 0)) (by (with_reducible repeat (first | refine zG ?_ _ | refine zI ?_ | refine zF ?_ _)); exact BK306.out) hb); have n3_ := Aside0.mk (zL (by repeat (first | (with_reducible first | exact HB.out | apply zC | apply zA | apply zB | refine zE ?_ GE306.out) | exact HB.out)) hb); clear HO312; clear BK306; clear HB; have HO312 := n0_; have HO316 := n1_; have BK306 := n2_; have HB := n3_; clear n0_ n1_ n2_ n3_; clear hb ho40; obtain ⟨Ao41, co41, eo41⟩ := Kd.R_slice HO312.out; subst eo41; obtain ⟨Ao42, co42, eo42⟩ := Kd.R_slice HO316.out; subst eo42) | ((with_reducible refine gate_callee (f := 53) rfl ?_); refine goesL_ (some 47) rfl rfl Tryd.func53 (by kernel_rfl) rfl #[.slice Ao41 t310.length co41, .int .i64 t307, .slice Ao42 y314.length co42] rfl (by (try simp only [List.map_toArray, List.map_cons, List.map_nil]); first | done | rfl | (simp only [List.length_drop, List.length_take]; rfl)) ?_; (with_reducible refine (insert_files.calls (fun k_ => some k_ = (.slice Ao41 t310.length co41 : Value).ownBlock) (.slice Ao41 t310.length co41) t310 t307 (fun k_ => some k_ = (.slice Ao42 y314.length co42 : Value).ownBlock) (.slice Ao42 y314.length co42) y314 t317 t320 w _ ?side1 ?side2 ?side3 ?side4 ?side5 A36.out).mono ?_); (case side1 => repeat (first | (with_reducible first | exact HB.out | apply zC | apply zA | apply zB | refine zE ?_ GE306.out) | exact HB.out)); (case side2 => exact Kd.R_tight rfl HO312.out); (case side3 => exact fun k_ e_ => (HO312.out.1 k_ e_.symm).2); (case side4 => exact Kd.R_tight rfl HO316.out); (case side5 => exact fun k_ e_ => (HO316.out.1 k_ e_.symm).1.2); rintro e w43 ⟨v318, rfl, ho0, hy0, hb, hkp⟩; refine ⟨_, rfl, ?_⟩; have n0_ := Aside0.mk (blk_kept (by (with_reducible repeat (first | refine zG ?_ _ | refine zI ?_ | refine zF ?_ _)); exact BK306.out) hkp (fun hs_ => Or.elim hs_ (fun e_ => (fun e_ => (Kd.R_away HO312.out (fun _ hk => hk.1.2)) e_) e_) (fun e_ => (fun e_ => (Kd.R_away HO316.out (fun _ hk => hk.2)) e_) e_))); have n1_ := Aside0.mk (Kd.R_reok rfl hy0 (fun k_ e_ => HO316.out.1 k_ e_)); have n2_ := Aside0.mk (Kd.R_mono (ok' := fun k_ => some k_ ≠ (.slice Ao42 y314.length co42 : Value).ownBlock ∧ k_ ≠ gb306) ho0 (fun k_ hk_ => ⟨hk_.2, Or.elim hk_.1 (fun hs_ => Or.elim hs_ (fun hs_ => fun e_ => (Kd.R_away HO312.out (fun _ hk => hk.1.2)) (by rw [← e_]; exact hs_)) (fun hs_ => fun e_ => (Kd.R_away HO316.out (fun _ hk => hk.2)) (by rw [← e_]; exact hs_))) (fun hn_ => (Kd.freshB (g := gb306) (o := .cells #[.string a1_0, .string a1_1] 50 (0, 0)) (by (with_reducible repeat (first | refine zG ?_ _ | refine zI ?_ | refine zF ?_ _)); exact BK306.out) k_ hn_))⟩)); have n3_ := Aside0.mk (hb); clear BK306; clear HO316; clear HB; clear HO312; have BK306 := n0_; have HO316 := n1_; have HO319 := n2_; have HB := n3_; clear n0_ n1_ n2_ n3_; (try clear hb); (try clear hkp); (try clear ho0); (try clear hy0)))
    go_ret2
    exact ⟨_, by first | rfl | (simp [zO, zN] <;> rfl) | (simp [*, zO, zN] <;> rfl), by (with_reducible repeat (first | apply Kd.R_alloc | apply Kd.R_drewN | apply Kd.R_drew)); exact Kd.R_mono HO319.out (fun _ hk => trivial), by repeat (first | (with_reducible first | exact HB.out | apply zC | apply zA | apply zB | refine zE ?_ GE306.out) | exact HB.out)⟩
end Go.Proofs.YtembjjombhfglaaDoor.G
