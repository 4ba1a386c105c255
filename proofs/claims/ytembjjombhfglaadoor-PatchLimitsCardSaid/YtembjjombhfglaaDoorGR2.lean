import Derived.Test.YtembjjombhfglaaDoorGR0
import Derived.Test.YtembjjombhfglaaDoorGR1
namespace Go.Proofs.YtembjjombhfglaaDoor.GR
open Go.RowKit Go.Proofs.YtembjjombhfglaaDoorW.PrintWords Go.Proofs.YtembjjombhfglaaDoorW.PrintLast Go.Proofs.YtembjjombhfglaaDoorW.PrintMore
attribute [local go_sem] max2_int min2_int max_two min_two max_three min_three max_four min_four
set_option linter.unusedVariables false
set_option linter.unusedSimpArgs false
mutual
def grapevineref01_spread.l0 : Nat → List Int → List Int → Int → Option (List Int)
 | 0, _, _, _ => none
 | k + 1, x0, x3, x4 => if x4 < 16 then (if 0 ≤ (wrap64 (4 * x4)) then (if (wrap64 (4 * x4)) < (x0.length : Int) then (if 0 ≤ (wrap64 ((wrap64 (4 * x4)) + 1)) then (if (wrap64 ((wrap64 (4 * x4)) + 1)) < (x0.length : Int) then (if 0 ≤ (wrap64 ((wrap64 (4 * x4)) + 2)) then (if (wrap64 ((wrap64 (4 * x4)) + 2)) < (x0.length : Int) then (if 0 ≤ (wrap64 ((wrap64 (4 * x4)) + 3)) then (if (wrap64 ((wrap64 (4 * x4)) + 3)) < (x0.length : Int) then (if x3.length < 35184372088832 then (grapevineref01_spread.l0 k x0 (x3 ++ [(((((((16777216 * ((rd x0 (wrap64 (4 * x4))) % 4294967296)) % 4294967296) + ((65536 * ((rd x0 (wrap64 ((wrap64 (4 * x4)) + 1))) % 4294967296)) % 4294967296)) % 4294967296) + ((256 * ((rd x0 (wrap64 ((wrap64 (4 * x4)) + 2))) % 4294967296)) % 4294967296)) % 4294967296) + ((rd x0 (wrap64 ((wrap64 (4 * x4)) + 3))) % 4294967296)) % 4294967296]) (wrap64 (x4 + 1))) else (none)) else (none)) else (none)) else (none)) else (none)) else (none)) else (none)) else (none)) else (none)) else (grapevineref01_spread.l1 k x3 16)
def grapevineref01_spread.l1 : Nat → List Int → Int → Option (List Int)
 | 0, _, _ => none
 | k + 1, x3, x5 => if x5 < 64 then (if 0 ≤ (wrap64 (x5 - 15)) then (if (wrap64 (x5 - 15)) < (x3.length : Int) then (if 0 ≤ (wrap64 (x5 - 2)) then (if (wrap64 (x5 - 2)) < (x3.length : Int) then ((grapevineref01_Turn.f k (rd x3 (wrap64 (x5 - 15))) 7).bind fun t125 => ((grapevineref01_Turn.f k (rd x3 (wrap64 (x5 - 15))) 18).bind fun t126 => ((grapevineref01_Turn.f k (rd x3 (wrap64 (x5 - 2))) 17).bind fun t127 => ((grapevineref01_Turn.f k (rd x3 (wrap64 (x5 - 2))) 19).bind fun t128 => (if 0 ≤ (wrap64 (x5 - 16)) then (if (wrap64 (x5 - 16)) < (x3.length : Int) then (if 0 ≤ (wrap64 (x5 - 7)) then (if (wrap64 (x5 - 7)) < (x3.length : Int) then (if x3.length < 35184372088832 then (grapevineref01_spread.l1 k (x3 ++ [((((((rd x3 (wrap64 (x5 - 16))) + (Go.bits .xor .u32 (Go.bits .xor .u32 t125 t126) ((Int.tdiv (rd x3 (wrap64 (x5 - 15))) 8) % 4294967296))) % 4294967296) + (rd x3 (wrap64 (x5 - 7)))) % 4294967296) + (Go.bits .xor .u32 (Go.bits .xor .u32 t127 t128) ((Int.tdiv (rd x3 (wrap64 (x5 - 2))) 1024) % 4294967296))) % 4294967296]) (wrap64 (x5 + 1))) else (none)) else (none)) else (none)) else (none)) else (none)))))) else (none)) else (none)) else (none)) else (none)) else (some x3)
end
def grapevineref01_spread.f (k : Nat) (l0 : List Int) : Option (List Int) := grapevineref01_spread.l0 k l0 ([] : List Int) 0
def grapevineref01_spread.T5 : Bool × List (List Nat × List Nat) := (true, [([], []), ([], []), ([], []), ([2], [2]), ([1, 3], [1, 3]), ([4], [4]), ([5], [5]), ([6], [6]), ([], []), ([], []), ([9], [9]), ([10], [10]), ([8, 11], [8, 11]), ([12], [12]), ([13], [13]), ([14], [14]), ([7, 15], [7, 15]), ([], []), ([], []), ([18], [18]), ([19], [19]), ([17, 20], [17, 20]), ([21], [21]), ([22], [22]), ([23], [23]), ([16, 24], [16, 24]), ([], []), ([], []), ([27], [27]), ([28], [28]), ([26, 29], [26, 29]), ([30], [30]), ([31], [31]), ([25, 32], [25, 32]), ([33], [33]), ([0, 34], [0, 34]), ([35, 35, 0, 1, 2, 3, 4, 5, 6, 7, 8, 9, 10, 11, 12, 13, 14, 15, 16, 17, 18, 19, 20, 21, 22, 23, 24, 25, 26, 27, 28, 29, 30, 31, 32, 33, 34, 35], [0, 35])])
def grapevineref01_spread.B5 : List Nat := [0, 0, 0, 4, 14, 30, 62, 126, 0, 0, 512, 1536, 3840, 7936, 16128, 32512, 65534, 0, 0, 262144, 786432, 1966080, 4063232, 8257536, 16646144, 33554430, 0, 0, 134217728, 402653184, 1006632960, 2080374784, 4227858432, 8589934590, 17179869182, 34359738367, 68719476735]
theorem grapevineref01_spread.tab5 : rtab .any (opsOf Tryd.f39 5) = grapevineref01_spread.T5 := by kernel_rfl
theorem grapevineref01_spread.bits5 : waitsOk grapevineref01_spread.T5.2 grapevineref01_spread.B5 = true := by kernel_rfl
def grapevineref01_spread.T13 : Bool × List (List Nat × List Nat) := (true, [([], []), ([], []), ([], []), ([2], [2]), ([1, 3], [1, 3]), ([4], [4]), ([], []), ([5, 6], [5, 6]), ([], []), ([], []), ([9], [9]), ([8, 10], [8, 10]), ([11], [11]), ([7, 12], [7, 12]), ([], []), ([13, 14], [13, 14]), ([15], [15]), ([0, 16], [0, 16]), ([17, 17, 0, 1, 2, 3, 4, 5, 6, 7, 8, 9, 10, 11, 12, 13, 14, 15, 16, 17], [0, 1, 8, 17])])
def grapevineref01_spread.B13 : List Nat := [0, 0, 0, 4, 14, 30, 0, 126, 0, 0, 512, 1792, 3840, 8190, 0, 32766, 65534, 131071, 262143]
theorem grapevineref01_spread.tab13 : rtab .any (opsOf Tryd.f39 13) = grapevineref01_spread.T13 := by kernel_rfl
theorem grapevineref01_spread.bits13 : waitsOk grapevineref01_spread.T13.2 grapevineref01_spread.B13 = true := by kernel_rfl
set_option maxHeartbeats 8000000 in
set_option maxRecDepth 100000 in
theorem grapevineref01_spread.calls (k : Nat) (A0 : Option Addr) (c0 : Nat) (l0 : List Int) (r : List Int) (w : World) (hr0 : Kd.C (Kd.int .u8) w A0 l0.length l0) (hc0 : l0.length ≤ c0) (h : grapevineref01_spread.f k l0 = some r) :
  Calls Tryd.prog 39 #[.slice A0 l0.length c0] w fun e w' => ∃ v0_ : Value, e = .returned (v0_) ∧ Kd.R (Kd.int .u32) 72 w' w.heap.size (fun _ => True) v0_ r ∧ Below w.heap.size w w' := by
 have HR0 := Aside0.mk hr0
 have HC0 := Aside0.mk hc0
 clear hr0 hc0
 have HB := Aside0.mk (Below.refl w.heap.size w)
 have H : (grapevineref01_spread.l0 k l0 ([] : List Int) 0) = some r := h
 clear h
 have H' := Aside0.mk H
 clear H
 go_enter Tryd.func39, Tryd.ntmps39
 go_wp2
 go_loopg [3, 4] k (fun kq v3 v4 w' => ∃ (x3_1 : List Int) (x4_1 : Int), v4 = .int .i64 x4_1 ∧ Aside0 (grapevineref01_spread.l0 kq l0 x3_1 x4_1 = some r) ∧ Aside0 (kq ≤ k) ∧ Aside0 (Kd.R (Kd.int .u32) 72 w' w.heap.size (fun _ => True) v3 x3_1) ∧ Aside0 (Below w.heap.size w w'))
 case atStart => exact ⟨(([] : List Int)), (0), (by first | rfl | (simp; done) | (simp [*]; done)), H', ⟨Nat.le_refl _⟩, ⟨by first | exact Kd.R_nil _ _ _ _ _ | exact Kd.N_nil _ _ _ _ _ | exact Kd.V_nil _ _ _ _ _ | exact Kd.Q_nil _ _ _ _ _ | exact Kd.S_nil _ _ _ _ _⟩, ⟨by repeat (first | (with_reducible first | exact HB.out | apply zC | apply zA | apply zB) | exact HB.out)⟩⟩
 case round =>
  clear H'
  obtain ⟨x3_1, x4_1, rfl, HA, HK1, HO_3, HB⟩ := hrel
  cases gk with
  | zero => exact absurd HA.out (by simp [grapevineref01_spread.l0])
  | succ k1 =>
   have H := HA.out
   clear HA
   simp only [grapevineref01_spread.l0] at H
   by_cases c2 : x4_1 < 16
   ·
    rw [if_pos c2] at H
    have c2b0 : decide (x4_1 < 16) = true := decide_eq_true c2
    clear c2
    obtain ⟨ji3, hji3⟩ : ∃ j_ : Int, (wrap64 (4 * x4_1)) = j_ := ⟨_, rfl⟩
    replace H : (if 0 ≤ (ji3) then (if (ji3) < (l0.length : Int) then (if 0 ≤ (wrap64 ((ji3) + 1)) then (if (wrap64 ((ji3) + 1)) < (l0.length : Int) then (if 0 ≤ (wrap64 ((ji3) + 2)) then (if (wrap64 ((ji3) + 2)) < (l0.length : Int) then (if 0 ≤ (wrap64 ((ji3) + 3)) then (if (wrap64 ((ji3) + 3)) < (l0.length : Int) then (if x3_1.length < 35184372088832 then (grapevineref01_spread.l0 k1 l0 (x3_1 ++ [(((((((16777216 * ((rd l0 (ji3)) % 4294967296)) % 4294967296) + ((65536 * ((rd l0 (wrap64 ((ji3) + 1))) % 4294967296)) % 4294967296)) % 4294967296) + ((256 * ((rd l0 (wrap64 ((ji3) + 2))) % 4294967296)) % 4294967296)) % 4294967296) + ((rd l0 (wrap64 ((ji3) + 3))) % 4294967296)) % 4294967296]) (wrap64 (x4_1 + 1))) else (none)) else (none)) else (none)) else (none)) else (none)) else (none)) else (none)) else (none)) else (none)) = some r := by first | (rw [hji3] at H; exact H) | (simp only [hji3] at H ⊢; exact H)
    have hji3w : (IntKind.i64.wrap (4 * x4_1)) = ji3 := (i64_w _).trans hji3
    by_cases c4 : 0 ≤ (ji3)
    ·
     rw [if_pos c4] at H
     have c4b0 : decide (0 ≤ (ji3)) = true := decide_eq_true c4
     clear c4
     by_cases c5 : (ji3) < (l0.length : Int)
     ·
      rw [if_pos c5] at H
      have c5b0 : decide ((ji3) < (l0.length : Int)) = true := decide_eq_true c5
      clear c5
      obtain ⟨ji6, hji6⟩ : ∃ j_ : Int, (wrap64 ((ji3) + 1)) = j_ := ⟨_, rfl⟩
      replace H : (if 0 ≤ (ji6) then (if (ji6) < (l0.length : Int) then (if 0 ≤ (wrap64 ((ji3) + 2)) then (if (wrap64 ((ji3) + 2)) < (l0.length : Int) then (if 0 ≤ (wrap64 ((ji3) + 3)) then (if (wrap64 ((ji3) + 3)) < (l0.length : Int) then (if x3_1.length < 35184372088832 then (grapevineref01_spread.l0 k1 l0 (x3_1 ++ [(((((((16777216 * ((rd l0 (ji3)) % 4294967296)) % 4294967296) + ((65536 * ((rd l0 (ji6)) % 4294967296)) % 4294967296)) % 4294967296) + ((256 * ((rd l0 (wrap64 ((ji3) + 2))) % 4294967296)) % 4294967296)) % 4294967296) + ((rd l0 (wrap64 ((ji3) + 3))) % 4294967296)) % 4294967296]) (wrap64 (x4_1 + 1))) else (none)) else (none)) else (none)) else (none)) else (none)) else (none)) else (none)) = some r := by first | (rw [hji6] at H; exact H) | (simp only [hji6] at H ⊢; exact H)
      have hji6w : (IntKind.i64.wrap ((ji3) + 1)) = ji6 := (i64_w _).trans hji6
      by_cases c7 : 0 ≤ (ji6)
      ·
       rw [if_pos c7] at H
       have c7b0 : decide (0 ≤ (ji6)) = true := decide_eq_true c7
       clear c7
       by_cases c8 : (ji6) < (l0.length : Int)
       ·
        rw [if_pos c8] at H
        have c8b0 : decide ((ji6) < (l0.length : Int)) = true := decide_eq_true c8
        clear c8
        obtain ⟨ji9, hji9⟩ : ∃ j_ : Int, (wrap64 ((ji3) + 2)) = j_ := ⟨_, rfl⟩
        replace H : (if 0 ≤ (ji9) then (if (ji9) < (l0.length : Int) then (if 0 ≤ (wrap64 ((ji3) + 3)) then (if (wrap64 ((ji3) + 3)) < (l0.length : Int) then (if x3_1.length < 35184372088832 then (grapevineref01_spread.l0 k1 l0 (x3_1 ++ [(((((((16777216 * ((rd l0 (ji3)) % 4294967296)) % 4294967296) + ((65536 * ((rd l0 (ji6)) % 4294967296)) % 4294967296)) % 4294967296) + ((256 * ((rd l0 (ji9)) % 4294967296)) % 4294967296)) % 4294967296) + ((rd l0 (wrap64 ((ji3) + 3))) % 4294967296)) % 4294967296]) (wrap64 (x4_1 + 1))) else (none)) else (none)) else (none)) else (none)) else (none)) = some r := by first | (rw [hji9] at H; exact H) | (simp only [hji9] at H ⊢; exact H)
        have hji9w : (IntKind.i64.wrap ((ji3) + 2)) = ji9 := (i64_w _).trans hji9
        by_cases c10 : 0 ≤ (ji9)
        ·
         rw [if_pos c10] at H
         have c10b0 : decide (0 ≤ (ji9)) = true := decide_eq_true c10
         clear c10
         by_cases c11 : (ji9) < (l0.length : Int)
         ·
          rw [if_pos c11] at H
          have c11b0 : decide ((ji9) < (l0.length : Int)) = true := decide_eq_true c11
          clear c11
          obtain ⟨ji12, hji12⟩ : ∃ j_ : Int, (wrap64 ((ji3) + 3)) = j_ := ⟨_, rfl⟩
          replace H : (if 0 ≤ (ji12) then (if (ji12) < (l0.length : Int) then (if x3_1.length < 35184372088832 then (grapevineref01_spread.l0 k1 l0 (x3_1 ++ [(((((((16777216 * ((rd l0 (ji3)) % 4294967296)) % 4294967296) + ((65536 * ((rd l0 (ji6)) % 4294967296)) % 4294967296)) % 4294967296) + ((256 * ((rd l0 (ji9)) % 4294967296)) % 4294967296)) % 4294967296) + ((rd l0 (ji12)) % 4294967296)) % 4294967296]) (wrap64 (x4_1 + 1))) else (none)) else (none)) else (none)) = some r := by first | (rw [hji12] at H; exact H) | (simp only [hji12] at H ⊢; exact H)
          have hji12w : (IntKind.i64.wrap ((ji3) + 3)) = ji12 := (i64_w _).trans hji12
          by_cases c13 : 0 ≤ (ji12)
          ·
           rw [if_pos c13] at H
           have c13b0 : decide (0 ≤ (ji12)) = true := decide_eq_true c13
           clear c13
           by_cases c14 : (ji12) < (l0.length : Int)
           ·
            rw [if_pos c14] at H
            have c14b0 : decide ((ji12) < (l0.length : Int)) = true := decide_eq_true c14
            clear c14
            by_cases c15 : x3_1.length < 35184372088832
            ·
             rw [if_pos c15] at H
             have LMc15 := Aside0.mk c15
             clear c15
             obtain ⟨y120, hy120⟩ : ∃ y_ : List Int, y_ = (x3_1 ++ [(((((((16777216 * ((rd l0 (ji3)) % 4294967296)) % 4294967296) + ((65536 * ((rd l0 (ji6)) % 4294967296)) % 4294967296)) % 4294967296) + ((256 * ((rd l0 (ji9)) % 4294967296)) % 4294967296)) % 4294967296) + ((rd l0 (ji12)) % 4294967296)) % 4294967296]) := ⟨_, rfl⟩
             replace H : (grapevineref01_spread.l0 k1 l0 y120 (wrap64 (x4_1 + 1))) = some r := by first | (rw [hy120]; with_reducible exact H) | (have H2_ := (Option.bind_some _ _).symm.trans H; rw [hy120]; with_reducible exact H2_) | (have H2_ := (Option.bind_some _ _).symm.trans H; with_reducible exact H2_) | with_reducible exact H | (rw [hy120]; exact H) | exact H
             have Ny120 := Aside0.mk hy120
             clear hy120
             have H' := Aside0.mk H
             clear H
             try go_wp2
             have n0_ := Aside0.mk (Kd.R_drew HO_3.out)
             have n1_ := Aside0.mk (zB HB.out)
             clear HO_3
             clear HB
             have HO_3 := n0_
             have HB := n1_
             clear n0_ n1_
             have p116 : 0 ≤ ((ji3) : Int) := of_decide_eq_true (by first | (with_reducible assumption) | assumption)
             have q116 : (ji3) < (l0.length : Int) := of_decide_eq_true (by first | (with_reducible assumption) | assumption)
             obtain ⟨ad116, e116, hx116_0⟩ := Kd.at_int HR0.out (ji3) p116 q116
             have hw116_0 := hx116_0
             cases e116
             replace hx116_0 := (HB.out.cell (World.block_lt_of_cell? w _ hx116_0)).trans hx116_0
             replace p116 := eq_true p116
             replace q116 := eq_true q116
             have p117 : 0 ≤ ((ji6) : Int) := of_decide_eq_true (by first | (with_reducible assumption) | assumption)
             have q117 : (ji6) < (l0.length : Int) := of_decide_eq_true (by first | (with_reducible assumption) | assumption)
             obtain ⟨ad117, e117, hx117_0⟩ := Kd.at_int HR0.out (ji6) p117 q117
             have hw117_0 := hx117_0
             obtain rfl : ad116 = ad117 := (by injection e117)
             replace hx117_0 := (HB.out.cell (World.block_lt_of_cell? w _ hx117_0)).trans hx117_0
             replace p117 := eq_true p117
             replace q117 := eq_true q117
             have p118 : 0 ≤ ((ji9) : Int) := of_decide_eq_true (by first | (with_reducible assumption) | assumption)
             have q118 : (ji9) < (l0.length : Int) := of_decide_eq_true (by first | (with_reducible assumption) | assumption)
             obtain ⟨ad118, e118, hx118_0⟩ := Kd.at_int HR0.out (ji9) p118 q118
             have hw118_0 := hx118_0
             obtain rfl : ad116 = ad118 := (by injection e118)
             replace hx118_0 := (HB.out.cell (World.block_lt_of_cell? w _ hx118_0)).trans hx118_0
             replace p118 := eq_true p118
             replace q118 := eq_true q118
             have p119 : 0 ≤ ((ji12) : Int) := of_decide_eq_true (by first | (with_reducible assumption) | assumption)
             have q119 : (ji12) < (l0.length : Int) := of_decide_eq_true (by first | (with_reducible assumption) | assumption)
             obtain ⟨ad119, e119, hx119_0⟩ := Kd.at_int HR0.out (ji12) p119 q119
             have hw119_0 := hx119_0
             obtain rfl : ad116 = ad119 := (by injection e119)
             replace hx119_0 := (HB.out.cell (World.block_lt_of_cell? w _ hx119_0)).trans hx119_0
             replace p119 := eq_true p119
             replace q119 := eq_true q119
             refine start_ (n := 37) (S := fun w' => w'.cell? (ad116.add ((ji3)).toNat) = some (.int .u8 (rd l0 (ji3))) ∧ w'.cell? (ad116.add ((ji6)).toNat) = some (.int .u8 (rd l0 (ji6))) ∧ w'.cell? (ad116.add ((ji9)).toNat) = some (.int .u8 (rd l0 (ji9))) ∧ w'.cell? (ad116.add ((ji12)).toNat) = some (.int .u8 (rd l0 (ji12)))) (ds := []) #[false, false, false, false, false, false, false, false, false, false, false, false, false, false, false, false, false, false, false, false, false, false, false, false, false, false, false, false, false, false, false, false, false, false, false, false, false] (by kernel_rfl) rfl rfl ⟨((HB.out.cell (World.block_lt_of_cell? w _ hw116_0)).trans hw116_0), ((HB.out.cell (World.block_lt_of_cell? w _ hw117_0)).trans hw117_0), ((HB.out.cell (World.block_lt_of_cell? w _ hw118_0)).trans hw118_0), ((HB.out.cell (World.block_lt_of_cell? w _ hw119_0)).trans hw119_0)⟩ (fun hHeld => ?_); refine with_tabW grapevineref01_spread.tab5 grapevineref01_spread.bits5 (fun HT_ HW_ => ?_)
             generalize wr.drew = w16 at HO_3 HB hx116_0 hx117_0 hx118_0 hx119_0 hHeld ⊢
             refine pure_ (i := 0) (N := some 14) (v := ?_) (a' := ?_) #[true, false, false, false, false, false, false, false, false, false, false, false, false, false, false, false, false, false, false, false, false, false, false, false, false, false, false, false, false, false, false, false, false, false, false, false, false] rfl rfl (zP HT_.out (by kernel_rfl)) (fun _ _ _ h => h) (Or.inl ⟨by rfl, ?_⟩) ?_ ?_
             rotate_left
             ·
              intro w'
              go_simp
              with_reducible rfl
             rotate_left
             ·
              simp only [Act.put, List.setIfInBounds_toArray, List.set_cons_zero, List.set_cons_succ, i64_w, i32_w]
              rfl
             refine pure_ (i := 1) (N := some 15) (v := ?_) (a' := ?_) #[true, true, false, false, false, false, false, false, false, false, false, false, false, false, false, false, false, false, false, false, false, false, false, false, false, false, false, false, false, false, false, false, false, false, false, false, false] rfl rfl (zP HT_.out (by kernel_rfl)) (fun _ _ _ h => h) (Or.inl ⟨by rfl, ?_⟩) ?_ ?_
             rotate_left
             ·
              intro w'
              go_simp
              with_reducible rfl
             rotate_left
             ·
              simp only [Act.put, List.setIfInBounds_toArray, List.set_cons_zero, List.set_cons_succ, i64_w, i32_w]
              rfl
             refine pure_ (i := 2) (N := some 16) (v := ?_) (a' := ?_) #[true, true, true, false, false, false, false, false, false, false, false, false, false, false, false, false, false, false, false, false, false, false, false, false, false, false, false, false, false, false, false, false, false, false, false, false, false] rfl rfl (zP HT_.out (by kernel_rfl)) (fun _ _ _ h => h) (Or.inl ⟨by rfl, ?_⟩) ?_ ?_
             rotate_left
             ·
              intro w'
              go_simp
              with_reducible rfl
             rotate_left
             ·
              simp only [Act.put, List.setIfInBounds_toArray, List.set_cons_zero, List.set_cons_succ, i64_w, i32_w]
              rfl
             refine pure_ (i := 3) (N := some 17) (v := ?_) (a' := ?_) #[true, true, true, true, false, false, false, false, false, false, false, false, false, false, false, false, false, false, false, false, false, false, false, false, false, false, false, false, false, false, false, false, false, false, false, false, false] rfl rfl (zP HT_.out (by kernel_rfl)) (fun _ _ _ h => h) (Or.inl ⟨by rfl, ?_⟩) ?_ ?_
             rotate_left
             ·
              intro w'
              go_simp
              with_reducible rfl
             rotate_left
             ·
              simp only [Act.put, List.setIfInBounds_toArray, List.set_cons_zero, List.set_cons_succ, i64_w, i32_w]
              rfl
             refine pure_ (i := 4) (N := some 18) (v := ?_) (a' := ?_) #[true, true, true, true, true, false, false, false, false, false, false, false, false, false, false, false, false, false, false, false, false, false, false, false, false, false, false, false, false, false, false, false, false, false, false, false, false] rfl rfl (zP HT_.out (by kernel_rfl)) (fun _ _ _ h => h) (Or.inl ⟨by rfl, ?_⟩) ?_ ?_
             rotate_left
             ·
              intro w'
              go_simp
              with_reducible rfl
             rotate_left
             ·
              simp only [Act.put, List.setIfInBounds_toArray, List.set_cons_zero, List.set_cons_succ, i64_w, i32_w]
              rfl
             refine pure_ (i := 8) (N := some 22) (v := ?_) (a' := ?_) #[true, true, true, true, true, false, false, false, true, false, false, false, false, false, false, false, false, false, false, false, false, false, false, false, false, false, false, false, false, false, false, false, false, false, false, false, false] rfl rfl (zP HT_.out (by kernel_rfl)) (fun _ _ _ h => h) (Or.inl ⟨by rfl, ?_⟩) ?_ ?_
             rotate_left
             ·
              intro w'
              go_simp
              with_reducible rfl
             rotate_left
             ·
              simp only [Act.put, List.setIfInBounds_toArray, List.set_cons_zero, List.set_cons_succ, i64_w, i32_w]
              rfl
             refine pure_ (i := 9) (N := some 23) (v := ?_) (a' := ?_) #[true, true, true, true, true, false, false, false, true, true, false, false, false, false, false, false, false, false, false, false, false, false, false, false, false, false, false, false, false, false, false, false, false, false, false, false, false] rfl rfl (zP HT_.out (by kernel_rfl)) (fun _ _ _ h => h) (Or.inl ⟨by rfl, ?_⟩) ?_ ?_
             rotate_left
             ·
              intro w'
              go_simp
              with_reducible rfl
             rotate_left
             ·
              simp only [Act.put, List.setIfInBounds_toArray, List.set_cons_zero, List.set_cons_succ, i64_w, i32_w]
              rfl
             refine pure_ (i := 10) (N := some 24) (v := ?_) (a' := ?_) #[true, true, true, true, true, false, false, false, true, true, true, false, false, false, false, false, false, false, false, false, false, false, false, false, false, false, false, false, false, false, false, false, false, false, false, false, false] rfl rfl (zP HT_.out (by kernel_rfl)) (fun _ _ _ h => h) (Or.inl ⟨by rfl, ?_⟩) ?_ ?_
             rotate_left
             ·
              intro w'
              go_simp
              with_reducible rfl
             rotate_left
             ·
              simp only [Act.put, List.setIfInBounds_toArray, List.set_cons_zero, List.set_cons_succ, i64_w, i32_w]
              rfl
             refine pure_ (i := 11) (N := some 25) (v := ?_) (a' := ?_) #[true, true, true, true, true, false, false, false, true, true, true, true, false, false, false, false, false, false, false, false, false, false, false, false, false, false, false, false, false, false, false, false, false, false, false, false, false] rfl rfl (zP HT_.out (by kernel_rfl)) (fun _ _ _ h => h) (Or.inl ⟨by rfl, ?_⟩) ?_ ?_
             rotate_left
             ·
              intro w'
              go_simp
              with_reducible rfl
             rotate_left
             ·
              simp only [Act.put, List.setIfInBounds_toArray, List.set_cons_zero, List.set_cons_succ, i64_w, i32_w]
              rfl
             refine pure_ (i := 12) (N := some 26) (v := ?_) (a' := ?_) #[true, true, true, true, true, false, false, false, true, true, true, true, true, false, false, false, false, false, false, false, false, false, false, false, false, false, false, false, false, false, false, false, false, false, false, false, false] rfl rfl (zP HT_.out (by kernel_rfl)) (fun _ _ _ h => h) (Or.inl ⟨by rfl, ?_⟩) ?_ ?_
             rotate_left
             ·
              intro w'
              go_simp
              with_reducible rfl
             rotate_left
             ·
              simp only [Act.put, List.setIfInBounds_toArray, List.set_cons_zero, List.set_cons_succ, i64_w, i32_w]
              rfl
             refine pure_ (i := 17) (N := some 31) (v := ?_) (a' := ?_) #[true, true, true, true, true, false, false, false, true, true, true, true, true, false, false, false, false, true, false, false, false, false, false, false, false, false, false, false, false, false, false, false, false, false, false, false, false] rfl rfl (zP HT_.out (by kernel_rfl)) (fun _ _ _ h => h) (Or.inl ⟨by rfl, ?_⟩) ?_ ?_
             rotate_left
             ·
              intro w'
              go_simp
              with_reducible rfl
             rotate_left
             ·
              simp only [Act.put, List.setIfInBounds_toArray, List.set_cons_zero, List.set_cons_succ, i64_w, i32_w]
              rfl
             refine pure_ (i := 18) (N := some 32) (v := ?_) (a' := ?_) #[true, true, true, true, true, false, false, false, true, true, true, true, true, false, false, false, false, true, true, false, false, false, false, false, false, false, false, false, false, false, false, false, false, false, false, false, false] rfl rfl (zP HT_.out (by kernel_rfl)) (fun _ _ _ h => h) (Or.inl ⟨by rfl, ?_⟩) ?_ ?_
             rotate_left
             ·
              intro w'
              go_simp
              with_reducible rfl
             rotate_left
             ·
              simp only [Act.put, List.setIfInBounds_toArray, List.set_cons_zero, List.set_cons_succ, i64_w, i32_w]
              rfl
             refine pure_ (i := 19) (N := some 33) (v := ?_) (a' := ?_) #[true, true, true, true, true, false, false, false, true, true, true, true, true, false, false, false, false, true, true, true, false, false, false, false, false, false, false, false, false, false, false, false, false, false, false, false, false] rfl rfl (zP HT_.out (by kernel_rfl)) (fun _ _ _ h => h) (Or.inl ⟨by rfl, ?_⟩) ?_ ?_
             rotate_left
             ·
              intro w'
              go_simp
              with_reducible rfl
             rotate_left
             ·
              simp only [Act.put, List.setIfInBounds_toArray, List.set_cons_zero, List.set_cons_succ, i64_w, i32_w]
              rfl
             refine pure_ (i := 20) (N := some 34) (v := ?_) (a' := ?_) #[true, true, true, true, true, false, false, false, true, true, true, true, true, false, false, false, false, true, true, true, true, false, false, false, false, false, false, false, false, false, false, false, false, false, false, false, false] rfl rfl (zP HT_.out (by kernel_rfl)) (fun _ _ _ h => h) (Or.inl ⟨by rfl, ?_⟩) ?_ ?_
             rotate_left
             ·
              intro w'
              go_simp
              with_reducible rfl
             rotate_left
             ·
              simp only [Act.put, List.setIfInBounds_toArray, List.set_cons_zero, List.set_cons_succ, i64_w, i32_w]
              rfl
             refine pure_ (i := 21) (N := some 35) (v := ?_) (a' := ?_) #[true, true, true, true, true, false, false, false, true, true, true, true, true, false, false, false, false, true, true, true, true, true, false, false, false, false, false, false, false, false, false, false, false, false, false, false, false] rfl rfl (zP HT_.out (by kernel_rfl)) (fun _ _ _ h => h) (Or.inl ⟨by rfl, ?_⟩) ?_ ?_
             rotate_left
             ·
              intro w'
              go_simp
              with_reducible rfl
             rotate_left
             ·
              simp only [Act.put, List.setIfInBounds_toArray, List.set_cons_zero, List.set_cons_succ, i64_w, i32_w]
              rfl
             refine pure_ (i := 26) (N := some 40) (v := ?_) (a' := ?_) #[true, true, true, true, true, false, false, false, true, true, true, true, true, false, false, false, false, true, true, true, true, true, false, false, false, false, true, false, false, false, false, false, false, false, false, false, false] rfl rfl (zP HT_.out (by kernel_rfl)) (fun _ _ _ h => h) (Or.inl ⟨by rfl, ?_⟩) ?_ ?_
             rotate_left
             ·
              intro w'
              go_simp
              with_reducible rfl
             rotate_left
             ·
              simp only [Act.put, List.setIfInBounds_toArray, List.set_cons_zero, List.set_cons_succ, i64_w, i32_w]
              rfl
             refine pure_ (i := 27) (N := some 41) (v := ?_) (a' := ?_) #[true, true, true, true, true, false, false, false, true, true, true, true, true, false, false, false, false, true, true, true, true, true, false, false, false, false, true, true, false, false, false, false, false, false, false, false, false] rfl rfl (zP HT_.out (by kernel_rfl)) (fun _ _ _ h => h) (Or.inl ⟨by rfl, ?_⟩) ?_ ?_
             rotate_left
             ·
              intro w'
              go_simp
              with_reducible rfl
             rotate_left
             ·
              simp only [Act.put, List.setIfInBounds_toArray, List.set_cons_zero, List.set_cons_succ, i64_w, i32_w]
              rfl
             refine pure_ (i := 28) (N := some 42) (v := ?_) (a' := ?_) #[true, true, true, true, true, false, false, false, true, true, true, true, true, false, false, false, false, true, true, true, true, true, false, false, false, false, true, true, true, false, false, false, false, false, false, false, false] rfl rfl (zP HT_.out (by kernel_rfl)) (fun _ _ _ h => h) (Or.inl ⟨by rfl, ?_⟩) ?_ ?_
             rotate_left
             ·
              intro w'
              go_simp
              with_reducible rfl
             rotate_left
             ·
              simp only [Act.put, List.setIfInBounds_toArray, List.set_cons_zero, List.set_cons_succ, i64_w, i32_w]
              rfl
             refine pure_ (i := 29) (N := some 43) (v := ?_) (a' := ?_) #[true, true, true, true, true, false, false, false, true, true, true, true, true, false, false, false, false, true, true, true, true, true, false, false, false, false, true, true, true, true, false, false, false, false, false, false, false] rfl rfl (zP HT_.out (by kernel_rfl)) (fun _ _ _ h => h) (Or.inl ⟨by rfl, ?_⟩) ?_ ?_
             rotate_left
             ·
              intro w'
              go_simp
              with_reducible rfl
             rotate_left
             ·
              simp only [Act.put, List.setIfInBounds_toArray, List.set_cons_zero, List.set_cons_succ, i64_w, i32_w]
              rfl
             refine pure_ (i := 30) (N := some 44) (v := ?_) (a' := ?_) #[true, true, true, true, true, false, false, false, true, true, true, true, true, false, false, false, false, true, true, true, true, true, false, false, false, false, true, true, true, true, true, false, false, false, false, false, false] rfl rfl (zP HT_.out (by kernel_rfl)) (fun _ _ _ h => h) (Or.inl ⟨by rfl, ?_⟩) ?_ ?_
             rotate_left
             ·
              intro w'
              go_simp
              with_reducible rfl
             rotate_left
             ·
              simp only [Act.put, List.setIfInBounds_toArray, List.set_cons_zero, List.set_cons_succ, i64_w, i32_w]
              rfl
             refine take_ (i := 5) (N := some 19) (v := ?_) (a' := ?_) #[true, true, true, true, true, true, false, false, true, true, true, true, true, false, false, false, false, true, true, true, true, true, false, false, false, false, true, true, true, true, true, false, false, false, false, false, false] rfl rfl (zR HT_.out HW_.out (by kernel_rfl)) (fun _ _ _ h => h) (Or.inl ⟨by rfl, ?_⟩) hHeld ?_ ?_
             rotate_left
             ·
              rintro w' ⟨s0, s1, s2, s3⟩
              go_simp
              with_reducible rfl
             rotate_left
             ·
              simp only [Act.put, List.setIfInBounds_toArray, List.set_cons_zero, List.set_cons_succ, i64_w, i32_w]
              rfl
             refine pure_ (i := 6) (N := some 20) (v := ?_) (a' := ?_) #[true, true, true, true, true, true, true, false, true, true, true, true, true, false, false, false, false, true, true, true, true, true, false, false, false, false, true, true, true, true, true, false, false, false, false, false, false] rfl rfl (zP HT_.out (by kernel_rfl)) (fun _ _ _ h => h) (Or.inl ⟨by rfl, ?_⟩) ?_ ?_
             rotate_left
             ·
              intro w'
              go_simp
              with_reducible rfl
             rotate_left
             ·
              simp only [Act.put, List.setIfInBounds_toArray, List.set_cons_zero, List.set_cons_succ, i64_w, i32_w]
              rfl
             refine pure_ (i := 7) (N := some 21) (v := ?_) (a' := ?_) #[true, true, true, true, true, true, true, true, true, true, true, true, true, false, false, false, false, true, true, true, true, true, false, false, false, false, true, true, true, true, true, false, false, false, false, false, false] rfl rfl (zP HT_.out (by kernel_rfl)) (fun _ _ _ h => h) (Or.inl ⟨by rfl, ?_⟩) ?_ ?_
             rotate_left
             ·
              intro w'
              go_simp
              with_reducible rfl
             rotate_left
             ·
              simp only [Act.put, List.setIfInBounds_toArray, List.set_cons_zero, List.set_cons_succ, i64_w, i32_w]
              rfl
             refine take_ (i := 13) (N := some 27) (v := ?_) (a' := ?_) #[true, true, true, true, true, true, true, true, true, true, true, true, true, true, false, false, false, true, true, true, true, true, false, false, false, false, true, true, true, true, true, false, false, false, false, false, false] rfl rfl (zR HT_.out HW_.out (by kernel_rfl)) (fun _ _ _ h => h) (Or.inl ⟨by rfl, ?_⟩) hHeld ?_ ?_
             rotate_left
             ·
              rintro w' ⟨s0, s1, s2, s3⟩
              go_simp
              with_reducible rfl
             rotate_left
             ·
              simp only [Act.put, List.setIfInBounds_toArray, List.set_cons_zero, List.set_cons_succ, i64_w, i32_w]
              rfl
             refine pure_ (i := 14) (N := some 28) (v := ?_) (a' := ?_) #[true, true, true, true, true, true, true, true, true, true, true, true, true, true, true, false, false, true, true, true, true, true, false, false, false, false, true, true, true, true, true, false, false, false, false, false, false] rfl rfl (zP HT_.out (by kernel_rfl)) (fun _ _ _ h => h) (Or.inl ⟨by rfl, ?_⟩) ?_ ?_
             rotate_left
             ·
              intro w'
              go_simp
              with_reducible rfl
             rotate_left
             ·
              simp only [Act.put, List.setIfInBounds_toArray, List.set_cons_zero, List.set_cons_succ, i64_w, i32_w]
              rfl
             refine pure_ (i := 15) (N := some 29) (v := ?_) (a' := ?_) #[true, true, true, true, true, true, true, true, true, true, true, true, true, true, true, true, false, true, true, true, true, true, false, false, false, false, true, true, true, true, true, false, false, false, false, false, false] rfl rfl (zP HT_.out (by kernel_rfl)) (fun _ _ _ h => h) (Or.inl ⟨by rfl, ?_⟩) ?_ ?_
             rotate_left
             ·
              intro w'
              go_simp
              with_reducible rfl
             rotate_left
             ·
              simp only [Act.put, List.setIfInBounds_toArray, List.set_cons_zero, List.set_cons_succ, i64_w, i32_w]
              rfl
             refine pure_ (i := 16) (N := some 30) (v := ?_) (a' := ?_) #[true, true, true, true, true, true, true, true, true, true, true, true, true, true, true, true, true, true, true, true, true, true, false, false, false, false, true, true, true, true, true, false, false, false, false, false, false] rfl rfl (zP HT_.out (by kernel_rfl)) (fun _ _ _ h => h) (Or.inl ⟨by rfl, ?_⟩) ?_ ?_
             rotate_left
             ·
              intro w'
              go_simp
              with_reducible rfl
             rotate_left
             ·
              simp only [Act.put, List.setIfInBounds_toArray, List.set_cons_zero, List.set_cons_succ, i64_w, i32_w]
              rfl
             refine take_ (i := 22) (N := some 36) (v := ?_) (a' := ?_) #[true, true, true, true, true, true, true, true, true, true, true, true, true, true, true, true, true, true, true, true, true, true, true, false, false, false, true, true, true, true, true, false, false, false, false, false, false] rfl rfl (zR HT_.out HW_.out (by kernel_rfl)) (fun _ _ _ h => h) (Or.inl ⟨by rfl, ?_⟩) hHeld ?_ ?_
             rotate_left
             ·
              rintro w' ⟨s0, s1, s2, s3⟩
              go_simp
              with_reducible rfl
             rotate_left
             ·
              simp only [Act.put, List.setIfInBounds_toArray, List.set_cons_zero, List.set_cons_succ, i64_w, i32_w]
              rfl
             refine pure_ (i := 23) (N := some 37) (v := ?_) (a' := ?_) #[true, true, true, true, true, true, true, true, true, true, true, true, true, true, true, true, true, true, true, true, true, true, true, true, false, false, true, true, true, true, true, false, false, false, false, false, false] rfl rfl (zP HT_.out (by kernel_rfl)) (fun _ _ _ h => h) (Or.inl ⟨by rfl, ?_⟩) ?_ ?_
             rotate_left
             ·
              intro w'
              go_simp
              with_reducible rfl
             rotate_left
             ·
              simp only [Act.put, List.setIfInBounds_toArray, List.set_cons_zero, List.set_cons_succ, i64_w, i32_w]
              rfl
             refine pure_ (i := 24) (N := some 38) (v := ?_) (a' := ?_) #[true, true, true, true, true, true, true, true, true, true, true, true, true, true, true, true, true, true, true, true, true, true, true, true, true, false, true, true, true, true, true, false, false, false, false, false, false] rfl rfl (zP HT_.out (by kernel_rfl)) (fun _ _ _ h => h) (Or.inl ⟨by rfl, ?_⟩) ?_ ?_
             rotate_left
             ·
              intro w'
              go_simp
              with_reducible rfl
             rotate_left
             ·
              simp only [Act.put, List.setIfInBounds_toArray, List.set_cons_zero, List.set_cons_succ, i64_w, i32_w]
              rfl
             refine pure_ (i := 25) (N := some 39) (v := ?_) (a' := ?_) #[true, true, true, true, true, true, true, true, true, true, true, true, true, true, true, true, true, true, true, true, true, true, true, true, true, true, true, true, true, true, true, false, false, false, false, false, false] rfl rfl (zP HT_.out (by kernel_rfl)) (fun _ _ _ h => h) (Or.inl ⟨by rfl, ?_⟩) ?_ ?_
             rotate_left
             ·
              intro w'
              go_simp
              with_reducible rfl
             rotate_left
             ·
              simp only [Act.put, List.setIfInBounds_toArray, List.set_cons_zero, List.set_cons_succ, i64_w, i32_w]
              rfl
             refine take_ (i := 31) (N := some 45) (v := ?_) (a' := ?_) #[true, true, true, true, true, true, true, true, true, true, true, true, true, true, true, true, true, true, true, true, true, true, true, true, true, true, true, true, true, true, true, true, false, false, false, false, false] rfl rfl (zR HT_.out HW_.out (by kernel_rfl)) (fun _ _ _ h => h) (Or.inl ⟨by rfl, ?_⟩) hHeld ?_ ?_
             rotate_left
             ·
              rintro w' ⟨s0, s1, s2, s3⟩
              go_simp
              with_reducible rfl
             rotate_left
             ·
              simp only [Act.put, List.setIfInBounds_toArray, List.set_cons_zero, List.set_cons_succ, i64_w, i32_w]
              rfl
             refine pure_ (i := 32) (N := some 46) (v := ?_) (a' := ?_) #[true, true, true, true, true, true, true, true, true, true, true, true, true, true, true, true, true, true, true, true, true, true, true, true, true, true, true, true, true, true, true, true, true, false, false, false, false] rfl rfl (zP HT_.out (by kernel_rfl)) (fun _ _ _ h => h) (Or.inl ⟨by rfl, ?_⟩) ?_ ?_
             rotate_left
             ·
              intro w'
              go_simp
              with_reducible rfl
             rotate_left
             ·
              simp only [Act.put, List.setIfInBounds_toArray, List.set_cons_zero, List.set_cons_succ, i64_w, i32_w]
              rfl
             refine pure_ (i := 33) (N := some 47) (v := ?_) (a' := ?_) #[true, true, true, true, true, true, true, true, true, true, true, true, true, true, true, true, true, true, true, true, true, true, true, true, true, true, true, true, true, true, true, true, true, true, false, false, false] rfl rfl (zP HT_.out (by kernel_rfl)) (fun _ _ _ h => h) (Or.inl ⟨by rfl, ?_⟩) ?_ ?_
             rotate_left
             ·
              intro w'
              go_simp
              with_reducible rfl
             rotate_left
             ·
              simp only [Act.put, List.setIfInBounds_toArray, List.set_cons_zero, List.set_cons_succ, i64_w, i32_w]
              rfl
             refine one_ (i := 34) (N := some 48) #[true, true, true, true, true, true, true, true, true, true, true, true, true, true, true, true, true, true, true, true, true, true, true, true, true, true, true, true, true, true, true, true, true, true, true, false, false] rfl rfl (one_of HT_.out (by kernel_rfl)) (by decide) (fun K hK => ?_)
             refine value_ (w1 := ?_) (v := ?_) (by rfl) rfl ?_ ?_
             rotate_left 2
             ·
              go_simp
              constructor
              · rfl
              · rfl
             refine hK.out _ _ ⟨(World.cell?_alloc_lt _ _ _ (World.block_lt_of_cell? _ _ (((HB.out.cell (World.block_lt_of_cell? w _ hw116_0)).trans hw116_0)))).trans (((HB.out.cell (World.block_lt_of_cell? w _ hw116_0)).trans hw116_0)), (World.cell?_alloc_lt _ _ _ (World.block_lt_of_cell? _ _ (((HB.out.cell (World.block_lt_of_cell? w _ hw117_0)).trans hw117_0)))).trans (((HB.out.cell (World.block_lt_of_cell? w _ hw117_0)).trans hw117_0)), (World.cell?_alloc_lt _ _ _ (World.block_lt_of_cell? _ _ (((HB.out.cell (World.block_lt_of_cell? w _ hw118_0)).trans hw118_0)))).trans (((HB.out.cell (World.block_lt_of_cell? w _ hw118_0)).trans hw118_0)), (World.cell?_alloc_lt _ _ _ (World.block_lt_of_cell? _ _ (((HB.out.cell (World.block_lt_of_cell? w _ hw119_0)).trans hw119_0)))).trans (((HB.out.cell (World.block_lt_of_cell? w _ hw119_0)).trans hw119_0))⟩ (fun hHeld => ?_)
             clear hK K
             refine norm_ (a' := ?_) ?_ ?_
             rotate_left
             ·
              show Act.put _ (some 48) _ = _
              simp only [Act.put, List.setIfInBounds_toArray, List.set_cons_zero, List.set_cons_succ, i64_w, i32_w]
              rfl
             refine one_ (i := 35) (N := some 49) #[true, true, true, true, true, true, true, true, true, true, true, true, true, true, true, true, true, true, true, true, true, true, true, true, true, true, true, true, true, true, true, true, true, true, true, true, false] rfl rfl (one_of HT_.out (by kernel_rfl)) (by decide) (fun K hK => ?_)
             refine Kd.R_append_step (Kd.int .u32) (w0 := w) w.heap.size (by rfl) (.tmp 14) (.tmp 48) 73 72 (.int .u32 0) 4 rfl Tryd.underlying73 info72 rfl (by decide) (by omega) u3 x3_1 ((((((((16777216 * ((rd l0 (ji3)) % 4294967296)) % 4294967296) + ((65536 * ((rd l0 (ji6)) % 4294967296)) % 4294967296)) % 4294967296) + ((256 * ((rd l0 (ji9)) % 4294967296)) % 4294967296)) % 4294967296) + ((rd l0 (ji12)) % 4294967296)) % 4294967296) [.int .u32 ((((((((16777216 * ((rd l0 (ji3)) % 4294967296)) % 4294967296) + ((65536 * ((rd l0 (ji6)) % 4294967296)) % 4294967296)) % 4294967296) + ((256 * ((rd l0 (ji9)) % 4294967296)) % 4294967296)) % 4294967296) + ((rd l0 (ji12)) % 4294967296)) % 4294967296)] (fun _ => True) (fun _ => False) rfl rfl ?aP (fun _ hk => hk.elim) ?aF ?aO ?aB ?aS ?aL ?_
             (case aP => exact rfl)
             (case aB => exact (by repeat (first | (with_reducible first | exact HB.out | apply zC | apply zA | apply zB) | exact HB.out)))
             (case aF => exact (fun _ _ => trivial))
             (case aO => exact (by (with_reducible repeat (first | apply Kd.R_alloc | apply Kd.R_drewN | apply Kd.R_drew)); exact HO_3.out))
             (case aS => exact (zK (by repeat (first | (with_reducible first | exact HB.out | apply zC | apply zA | apply zB) | exact HB.out))))
             (case aL => have := LMc15.out; omega)
             intro v121 w17 ho hb hg hat
             rw [← Ny120.out] at ho
             have n0_ := Aside0.mk (hb)
             have n1_ := Aside0.mk (ho)
             clear HB
             clear HO_3
             have HB := n0_
             have HO122 := n1_
             clear n0_ n1_
             clear ho hb hg hat
             refine hK.out _ _ ⟨((HB.out.cell (World.block_lt_of_cell? w _ hw116_0)).trans hw116_0), ((HB.out.cell (World.block_lt_of_cell? w _ hw117_0)).trans hw117_0), ((HB.out.cell (World.block_lt_of_cell? w _ hw118_0)).trans hw118_0), ((HB.out.cell (World.block_lt_of_cell? w _ hw119_0)).trans hw119_0)⟩ (fun hHeld => ?_)
             clear hK K
             refine norm_ (a' := ?_) ?_ ?_
             rotate_left
             ·
              show Act.put _ (some 49) _ = _
              simp only [Act.put, List.setIfInBounds_toArray, List.set_cons_zero, List.set_cons_succ, i64_w, i32_w]
              rfl
             refine pure_ (i := 36) (N := some 3) (v := ?_) (a' := ?_) #[true, true, true, true, true, true, true, true, true, true, true, true, true, true, true, true, true, true, true, true, true, true, true, true, true, true, true, true, true, true, true, true, true, true, true, true, true] rfl rfl (zP HT_.out (by kernel_rfl)) (fun _ _ _ h => h) (Or.inl ⟨by rfl, ?_⟩) ?_ ?_
             rotate_left
             ·
              intro w'
              go_simp
              with_reducible rfl
             rotate_left
             ·
              simp only [Act.put, List.setIfInBounds_toArray, List.set_cons_zero, List.set_cons_succ, i64_w, i32_w]
              rfl
             refine done_ (done_of HT_.out (by kernel_rfl)) ?_
             try go_wp2
             go_roundg k1
             case measure => have := HK1.out; omega
             case rel => exact ⟨(y120), (wrap64 (x4_1 + 1)), (by first | rfl | (simp; done) | (simp [*]; done)), H', ⟨by have := HK1.out; omega⟩, ⟨by (with_reducible repeat (first | apply Kd.R_alloc | apply Kd.R_drewN | apply Kd.R_drew)); exact HO122.out⟩, ⟨by repeat (first | (with_reducible first | exact HB.out | apply zC | apply zA | apply zB) | exact HB.out)⟩⟩
            ·
             rw [if_neg c15] at H
             exact absurd H (by simp)
           ·
            rw [if_neg c14] at H
            exact absurd H (by simp)
          ·
           rw [if_neg c13] at H
           exact absurd H (by simp)
         ·
          rw [if_neg c11] at H
          exact absurd H (by simp)
        ·
         rw [if_neg c10] at H
         exact absurd H (by simp)
       ·
        rw [if_neg c8] at H
        exact absurd H (by simp)
      ·
       rw [if_neg c7] at H
       exact absurd H (by simp)
     ·
      rw [if_neg c5] at H
      exact absurd H (by simp)
    ·
     rw [if_neg c4] at H
     exact absurd H (by simp)
   ·
    rw [if_neg c2] at H
    have c2b0 : decide (x4_1 < 16) = false := decide_eq_false c2
    clear c2
    have H' := Aside0.mk H
    clear H
    go_wp2
    go_loopg [3, 5] k1 (fun kq v3 v5 w' => ∃ (x3_2 : List Int) (x5_2 : Int), v5 = .int .i64 x5_2 ∧ Aside0 (grapevineref01_spread.l1 kq x3_2 x5_2 = some r) ∧ Aside0 (kq ≤ k1) ∧ Aside0 (Kd.R (Kd.int .u32) 72 w' w.heap.size (fun _ => True) v3 x3_2) ∧ Aside0 (Below w.heap.size w w'))
    case atStart => exact ⟨(x3_1), (16), (by first | rfl | (simp; done) | (simp [*]; done)), H', ⟨Nat.le_refl _⟩, ⟨by (with_reducible repeat (first | apply Kd.R_alloc | apply Kd.R_drewN | apply Kd.R_drew)); exact HO_3.out⟩, ⟨by repeat (first | (with_reducible first | exact HB.out | apply zC | apply zA | apply zB) | exact HB.out)⟩⟩
    case round =>
     clear H'
     try clear c1
     try clear p1
     try clear q1
     try clear hx1
     try clear c2
     try clear c2b0
     try clear p2
     try clear c3
     try clear c4
     try clear c4b0
     try clear c5
     try clear c5b0
     try clear p6
     try clear c7
     try clear c7b0
     try clear c8
     try clear c8b0
     try clear c10
     try clear c10b0
     try clear c11
     try clear c11b0
     try clear p11
     try clear q11
     try clear hx11
     try clear c13
     try clear c13b0
     try clear c14
     try clear c14b0
     try clear c15
     try clear hx116_0
     try clear hx117_0
     try clear hx118_0
     try clear hx119_0
     try clear p116
     try clear p117
     try clear p118
     try clear p119
     try clear q116
     try clear q117
     try clear q118
     try clear q119
     obtain ⟨x3_2, x5_2, rfl, HA, HK2, HO_3, HB⟩ := hrel
     cases gk with
     | zero => exact absurd HA.out (by simp [grapevineref01_spread.l1])
     | succ k2 =>
      have H := HA.out
      clear HA
      simp only [grapevineref01_spread.l1] at H
      by_cases c18 : x5_2 < 64
      ·
       rw [if_pos c18] at H
       have c18b0 : decide (x5_2 < 64) = true := decide_eq_true c18
       clear c18
       obtain ⟨ji19, hji19⟩ : ∃ j_ : Int, (wrap64 (x5_2 - 15)) = j_ := ⟨_, rfl⟩
       replace H : (if 0 ≤ (ji19) then (if (ji19) < (x3_2.length : Int) then (if 0 ≤ (wrap64 (x5_2 - 2)) then (if (wrap64 (x5_2 - 2)) < (x3_2.length : Int) then ((grapevineref01_Turn.f k2 (rd x3_2 (ji19)) 7).bind fun t125 => ((grapevineref01_Turn.f k2 (rd x3_2 (ji19)) 18).bind fun t126 => ((grapevineref01_Turn.f k2 (rd x3_2 (wrap64 (x5_2 - 2))) 17).bind fun t127 => ((grapevineref01_Turn.f k2 (rd x3_2 (wrap64 (x5_2 - 2))) 19).bind fun t128 => (if 0 ≤ (wrap64 (x5_2 - 16)) then (if (wrap64 (x5_2 - 16)) < (x3_2.length : Int) then (if 0 ≤ (wrap64 (x5_2 - 7)) then (if (wrap64 (x5_2 - 7)) < (x3_2.length : Int) then (if x3_2.length < 35184372088832 then (grapevineref01_spread.l1 k2 (x3_2 ++ [((((((rd x3_2 (wrap64 (x5_2 - 16))) + (Go.bits .xor .u32 (Go.bits .xor .u32 t125 t126) ((Int.tdiv (rd x3_2 (ji19)) 8) % 4294967296))) % 4294967296) + (rd x3_2 (wrap64 (x5_2 - 7)))) % 4294967296) + (Go.bits .xor .u32 (Go.bits .xor .u32 t127 t128) ((Int.tdiv (rd x3_2 (wrap64 (x5_2 - 2))) 1024) % 4294967296))) % 4294967296]) (wrap64 (x5_2 + 1))) else (none)) else (none)) else (none)) else (none)) else (none)))))) else (none)) else (none)) else (none)) else (none)) = some r := by first | (rw [hji19] at H; exact H) | (simp only [hji19] at H ⊢; exact H)
       have hji19w : (IntKind.i64.wrap (x5_2 - 15)) = ji19 := (i64_w _).trans hji19
       by_cases c20 : 0 ≤ (ji19)
       ·
        rw [if_pos c20] at H
        have c20b0 : decide (0 ≤ (ji19)) = true := decide_eq_true c20
        clear c20
        by_cases c21 : (ji19) < (x3_2.length : Int)
        ·
         rw [if_pos c21] at H
         have c21b0 : decide ((ji19) < (x3_2.length : Int)) = true := decide_eq_true c21
         clear c21
         obtain ⟨ji22, hji22⟩ : ∃ j_ : Int, (wrap64 (x5_2 - 2)) = j_ := ⟨_, rfl⟩
         replace H : (if 0 ≤ (ji22) then (if (ji22) < (x3_2.length : Int) then ((grapevineref01_Turn.f k2 (rd x3_2 (ji19)) 7).bind fun t125 => ((grapevineref01_Turn.f k2 (rd x3_2 (ji19)) 18).bind fun t126 => ((grapevineref01_Turn.f k2 (rd x3_2 (ji22)) 17).bind fun t127 => ((grapevineref01_Turn.f k2 (rd x3_2 (ji22)) 19).bind fun t128 => (if 0 ≤ (wrap64 (x5_2 - 16)) then (if (wrap64 (x5_2 - 16)) < (x3_2.length : Int) then (if 0 ≤ (wrap64 (x5_2 - 7)) then (if (wrap64 (x5_2 - 7)) < (x3_2.length : Int) then (if x3_2.length < 35184372088832 then (grapevineref01_spread.l1 k2 (x3_2 ++ [((((((rd x3_2 (wrap64 (x5_2 - 16))) + (Go.bits .xor .u32 (Go.bits .xor .u32 t125 t126) ((Int.tdiv (rd x3_2 (ji19)) 8) % 4294967296))) % 4294967296) + (rd x3_2 (wrap64 (x5_2 - 7)))) % 4294967296) + (Go.bits .xor .u32 (Go.bits .xor .u32 t127 t128) ((Int.tdiv (rd x3_2 (ji22)) 1024) % 4294967296))) % 4294967296]) (wrap64 (x5_2 + 1))) else (none)) else (none)) else (none)) else (none)) else (none)))))) else (none)) else (none)) = some r := by first | (rw [hji22] at H; exact H) | (simp only [hji22] at H ⊢; exact H)
         have hji22w : (IntKind.i64.wrap (x5_2 - 2)) = ji22 := (i64_w _).trans hji22
         by_cases c23 : 0 ≤ (ji22)
         ·
          rw [if_pos c23] at H
          have c23b0 : decide (0 ≤ (ji22)) = true := decide_eq_true c23
          clear c23
          by_cases c24 : (ji22) < (x3_2.length : Int)
          ·
           rw [if_pos c24] at H
           have c24b0 : decide ((ji22) < (x3_2.length : Int)) = true := decide_eq_true c24
           clear c24
           replace H := Option.bind_eq_some_iff.mp H
           obtain ⟨t125, A250, H⟩ := H
           replace H : ((grapevineref01_Turn.f k2 (rd x3_2 (ji19)) 18).bind fun t126 => ((grapevineref01_Turn.f k2 (rd x3_2 (ji22)) 17).bind fun t127 => ((grapevineref01_Turn.f k2 (rd x3_2 (ji22)) 19).bind fun t128 => (if 0 ≤ (wrap64 (x5_2 - 16)) then (if (wrap64 (x5_2 - 16)) < (x3_2.length : Int) then (if 0 ≤ (wrap64 (x5_2 - 7)) then (if (wrap64 (x5_2 - 7)) < (x3_2.length : Int) then (if x3_2.length < 35184372088832 then (grapevineref01_spread.l1 k2 (x3_2 ++ [((((((rd x3_2 (wrap64 (x5_2 - 16))) + (Go.bits .xor .u32 (Go.bits .xor .u32 t125 t126) ((Int.tdiv (rd x3_2 (ji19)) 8) % 4294967296))) % 4294967296) + (rd x3_2 (wrap64 (x5_2 - 7)))) % 4294967296) + (Go.bits .xor .u32 (Go.bits .xor .u32 t127 t128) ((Int.tdiv (rd x3_2 (ji22)) 1024) % 4294967296))) % 4294967296]) (wrap64 (x5_2 + 1))) else (none)) else (none)) else (none)) else (none)) else (none))))) = some r := H
           have A25 := Aside0.mk A250
           clear A250
           replace H := Option.bind_eq_some_iff.mp H
           obtain ⟨t126, A260, H⟩ := H
           replace H : ((grapevineref01_Turn.f k2 (rd x3_2 (ji22)) 17).bind fun t127 => ((grapevineref01_Turn.f k2 (rd x3_2 (ji22)) 19).bind fun t128 => (if 0 ≤ (wrap64 (x5_2 - 16)) then (if (wrap64 (x5_2 - 16)) < (x3_2.length : Int) then (if 0 ≤ (wrap64 (x5_2 - 7)) then (if (wrap64 (x5_2 - 7)) < (x3_2.length : Int) then (if x3_2.length < 35184372088832 then (grapevineref01_spread.l1 k2 (x3_2 ++ [((((((rd x3_2 (wrap64 (x5_2 - 16))) + (Go.bits .xor .u32 (Go.bits .xor .u32 t125 t126) ((Int.tdiv (rd x3_2 (ji19)) 8) % 4294967296))) % 4294967296) + (rd x3_2 (wrap64 (x5_2 - 7)))) % 4294967296) + (Go.bits .xor .u32 (Go.bits .xor .u32 t127 t128) ((Int.tdiv (rd x3_2 (ji22)) 1024) % 4294967296))) % 4294967296]) (wrap64 (x5_2 + 1))) else (none)) else (none)) else (none)) else (none)) else (none)))) = some r := H
           have A26 := Aside0.mk A260
           clear A260
           replace H := Option.bind_eq_some_iff.mp H
           obtain ⟨t127, A270, H⟩ := H
           replace H : ((grapevineref01_Turn.f k2 (rd x3_2 (ji22)) 19).bind fun t128 => (if 0 ≤ (wrap64 (x5_2 - 16)) then (if (wrap64 (x5_2 - 16)) < (x3_2.length : Int) then (if 0 ≤ (wrap64 (x5_2 - 7)) then (if (wrap64 (x5_2 - 7)) < (x3_2.length : Int) then (if x3_2.length < 35184372088832 then (grapevineref01_spread.l1 k2 (x3_2 ++ [((((((rd x3_2 (wrap64 (x5_2 - 16))) + (Go.bits .xor .u32 (Go.bits .xor .u32 t125 t126) ((Int.tdiv (rd x3_2 (ji19)) 8) % 4294967296))) % 4294967296) + (rd x3_2 (wrap64 (x5_2 - 7)))) % 4294967296) + (Go.bits .xor .u32 (Go.bits .xor .u32 t127 t128) ((Int.tdiv (rd x3_2 (ji22)) 1024) % 4294967296))) % 4294967296]) (wrap64 (x5_2 + 1))) else (none)) else (none)) else (none)) else (none)) else (none))) = some r := H
           have A27 := Aside0.mk A270
           clear A270
           replace H := Option.bind_eq_some_iff.mp H
           obtain ⟨t128, A280, H⟩ := H
           replace H : (if 0 ≤ (wrap64 (x5_2 - 16)) then (if (wrap64 (x5_2 - 16)) < (x3_2.length : Int) then (if 0 ≤ (wrap64 (x5_2 - 7)) then (if (wrap64 (x5_2 - 7)) < (x3_2.length : Int) then (if x3_2.length < 35184372088832 then (grapevineref01_spread.l1 k2 (x3_2 ++ [((((((rd x3_2 (wrap64 (x5_2 - 16))) + (Go.bits .xor .u32 (Go.bits .xor .u32 t125 t126) ((Int.tdiv (rd x3_2 (ji19)) 8) % 4294967296))) % 4294967296) + (rd x3_2 (wrap64 (x5_2 - 7)))) % 4294967296) + (Go.bits .xor .u32 (Go.bits .xor .u32 t127 t128) ((Int.tdiv (rd x3_2 (ji22)) 1024) % 4294967296))) % 4294967296]) (wrap64 (x5_2 + 1))) else (none)) else (none)) else (none)) else (none)) else (none)) = some r := H
           have A28 := Aside0.mk A280
           clear A280
           obtain ⟨ji29, hji29⟩ : ∃ j_ : Int, (wrap64 (x5_2 - 16)) = j_ := ⟨_, rfl⟩
           replace H : (if 0 ≤ (ji29) then (if (ji29) < (x3_2.length : Int) then (if 0 ≤ (wrap64 (x5_2 - 7)) then (if (wrap64 (x5_2 - 7)) < (x3_2.length : Int) then (if x3_2.length < 35184372088832 then (grapevineref01_spread.l1 k2 (x3_2 ++ [((((((rd x3_2 (ji29)) + (Go.bits .xor .u32 (Go.bits .xor .u32 t125 t126) ((Int.tdiv (rd x3_2 (ji19)) 8) % 4294967296))) % 4294967296) + (rd x3_2 (wrap64 (x5_2 - 7)))) % 4294967296) + (Go.bits .xor .u32 (Go.bits .xor .u32 t127 t128) ((Int.tdiv (rd x3_2 (ji22)) 1024) % 4294967296))) % 4294967296]) (wrap64 (x5_2 + 1))) else (none)) else (none)) else (none)) else (none)) else (none)) = some r := by first | (rw [hji29] at H; exact H) | (simp only [hji29] at H ⊢; exact H)
           (try rw [hji29] at A25)
           (try rw [hji29] at A26)
           (try rw [hji29] at A27)
           (try rw [hji29] at A28)
           have hji29w : (IntKind.i64.wrap (x5_2 - 16)) = ji29 := (i64_w _).trans hji29
           by_cases c30 : 0 ≤ (ji29)
           ·
            rw [if_pos c30] at H
            have c30b0 : decide (0 ≤ (ji29)) = true := decide_eq_true c30
            clear c30
            by_cases c31 : (ji29) < (x3_2.length : Int)
            ·
             rw [if_pos c31] at H
             have c31b0 : decide ((ji29) < (x3_2.length : Int)) = true := decide_eq_true c31
             clear c31
             obtain ⟨ji32, hji32⟩ : ∃ j_ : Int, (wrap64 (x5_2 - 7)) = j_ := ⟨_, rfl⟩
             replace H : (if 0 ≤ (ji32) then (if (ji32) < (x3_2.length : Int) then (if x3_2.length < 35184372088832 then (grapevineref01_spread.l1 k2 (x3_2 ++ [((((((rd x3_2 (ji29)) + (Go.bits .xor .u32 (Go.bits .xor .u32 t125 t126) ((Int.tdiv (rd x3_2 (ji19)) 8) % 4294967296))) % 4294967296) + (rd x3_2 (ji32))) % 4294967296) + (Go.bits .xor .u32 (Go.bits .xor .u32 t127 t128) ((Int.tdiv (rd x3_2 (ji22)) 1024) % 4294967296))) % 4294967296]) (wrap64 (x5_2 + 1))) else (none)) else (none)) else (none)) = some r := by first | (rw [hji32] at H; exact H) | (simp only [hji32] at H ⊢; exact H)
             (try rw [hji32] at A25)
             (try rw [hji32] at A26)
             (try rw [hji32] at A27)
             (try rw [hji32] at A28)
             have hji32w : (IntKind.i64.wrap (x5_2 - 7)) = ji32 := (i64_w _).trans hji32
             by_cases c33 : 0 ≤ (ji32)
             ·
              rw [if_pos c33] at H
              have c33b0 : decide (0 ≤ (ji32)) = true := decide_eq_true c33
              clear c33
              by_cases c34 : (ji32) < (x3_2.length : Int)
              ·
               rw [if_pos c34] at H
               have c34b0 : decide ((ji32) < (x3_2.length : Int)) = true := decide_eq_true c34
               clear c34
               by_cases c35 : x3_2.length < 35184372088832
               ·
                rw [if_pos c35] at H
                have LMc35 := Aside0.mk c35
                clear c35
                obtain ⟨y131, hy131⟩ : ∃ y_ : List Int, y_ = (x3_2 ++ [((((((rd x3_2 (ji29)) + (Go.bits .xor .u32 (Go.bits .xor .u32 t125 t126) ((Int.tdiv (rd x3_2 (ji19)) 8) % 4294967296))) % 4294967296) + (rd x3_2 (ji32))) % 4294967296) + (Go.bits .xor .u32 (Go.bits .xor .u32 t127 t128) ((Int.tdiv (rd x3_2 (ji22)) 1024) % 4294967296))) % 4294967296]) := ⟨_, rfl⟩
                replace H : (grapevineref01_spread.l1 k2 y131 (wrap64 (x5_2 + 1))) = some r := by first | (rw [hy131]; with_reducible exact H) | (have H2_ := (Option.bind_some _ _).symm.trans H; rw [hy131]; with_reducible exact H2_) | (have H2_ := (Option.bind_some _ _).symm.trans H; with_reducible exact H2_) | with_reducible exact H | (rw [hy131]; exact H) | exact H
                have Ny131 := Aside0.mk hy131
                clear hy131
                have H' := Aside0.mk H
                clear H
                obtain ⟨Ao36, co36, eo36⟩ := Kd.R_slice HO_3.out
                subst eo36
                have p123 : 0 ≤ ((ji19) : Int) := of_decide_eq_true (by first | (with_reducible assumption) | assumption)
                have q123 : (ji19) < (x3_2.length : Int) := of_decide_eq_true (by first | (with_reducible assumption) | assumption)
                obtain ⟨ad123, e123, hx123_0⟩ := Kd.at_int (Kd.R_reads' HO_3.out).2.2 (ji19) p123 q123
                cases e123
                replace p123 := eq_true p123
                replace q123 := eq_true q123
                have p124 : 0 ≤ ((ji22) : Int) := of_decide_eq_true (by first | (with_reducible assumption) | assumption)
                have q124 : (ji22) < (x3_2.length : Int) := of_decide_eq_true (by first | (with_reducible assumption) | assumption)
                obtain ⟨ad124, e124, hx124_0⟩ := Kd.at_int (Kd.R_reads' HO_3.out).2.2 (ji22) p124 q124
                obtain rfl : ad123 = ad124 := (by injection e124)
                replace p124 := eq_true p124
                replace q124 := eq_true q124
                try go_wp2_with (first | ((with_reducible refine gate_callee (f := 40) rfl ?_); refine goesL_ (some 65) rfl rfl Tryd.func40 (by kernel_rfl) rfl #[.int .u32 (rd x3_2 (ji19)), .int .i64 7] rfl (by (try simp only [List.map_toArray, List.map_cons, List.map_nil]); first | done | (simp only [hji19]; rfl) | rfl | (simp only [List.length_drop, List.length_take]; rfl)) ?_; (with_reducible refine (grapevineref01_Turn.calls k2 (rd x3_2 (ji19)) 7 t125 _ A25.out).mono ?_); rintro e w' ⟨rfl, ⟨nd, rfl⟩⟩; refine ⟨_, rfl, ?_⟩) | ((with_reducible refine gate_callee (f := 40) rfl ?_); refine goesL_ (some 67) rfl rfl Tryd.func40 (by kernel_rfl) rfl #[.int .u32 (rd x3_2 (ji19)), .int .i64 18] rfl (by (try simp only [List.map_toArray, List.map_cons, List.map_nil]); first | done | (simp only [hji19]; rfl) | rfl | (simp only [List.length_drop, List.length_take]; rfl)) ?_; (with_reducible refine (grapevineref01_Turn.calls k2 (rd x3_2 (ji19)) 18 t126 _ A26.out).mono ?_); rintro e w' ⟨rfl, ⟨nd, rfl⟩⟩; refine ⟨_, rfl, ?_⟩) | ((with_reducible refine gate_callee (f := 40) rfl ?_); refine goesL_ (some 73) rfl rfl Tryd.func40 (by kernel_rfl) rfl #[.int .u32 (rd x3_2 (ji22)), .int .i64 17] rfl (by (try simp only [List.map_toArray, List.map_cons, List.map_nil]); first | done | (simp only [hji22]; rfl) | rfl | (simp only [List.length_drop, List.length_take]; rfl)) ?_; (with_reducible refine (grapevineref01_Turn.calls k2 (rd x3_2 (ji22)) 17 t127 _ A27.out).mono ?_); rintro e w' ⟨rfl, ⟨nd, rfl⟩⟩; refine ⟨_, rfl, ?_⟩) | ((with_reducible refine gate_callee (f := 40) rfl ?_); refine goesL_ (some 75) rfl rfl Tryd.func40 (by kernel_rfl) rfl #[.int .u32 (rd x3_2 (ji22)), .int .i64 19] rfl (by (try simp only [List.map_toArray, List.map_cons, List.map_nil]); first | done | (simp only [hji22]; rfl) | rfl | (simp only [List.length_drop, List.length_take]; rfl)) ?_; (with_reducible refine (grapevineref01_Turn.calls k2 (rd x3_2 (ji22)) 19 t128 _ A28.out).mono ?_); rintro e w' ⟨rfl, ⟨nd, rfl⟩⟩; refine ⟨_, rfl, ?_⟩))
                (try (rw [drewN_self wr]; generalize hq_ : World.drewN wr _ = wr; have n0_ : Aside0 (Kd.R (Kd.int .u32) 72 wr w.heap.size (fun _ => True) (.slice (some ad123) x3_2.length co36) x3_2) := ⟨by rw [← hq_]; exact (by (with_reducible repeat (first | apply Kd.R_alloc | apply Kd.R_drewN | apply Kd.R_drew)); exact HO_3.out)⟩; have n1_ : Aside0 (Below w.heap.size w wr) := ⟨by rw [← hq_]; exact (by repeat (first | (with_reducible first | exact HB.out | apply zC | apply zA | apply zB) | exact HB.out))⟩; clear HO_3 HB hq_; have HO_3 := n0_; have HB := n1_; clear n0_ n1_))
                have n0_ := Aside0.mk (Kd.R_drew HO_3.out)
                have n1_ := Aside0.mk (zB HB.out)
                clear HO_3
                clear HB
                have HO_3 := n0_
                have HB := n1_
                clear n0_ n1_
                have p129 : 0 ≤ ((ji29) : Int) := of_decide_eq_true (by first | (with_reducible assumption) | assumption)
                have q129 : (ji29) < (x3_2.length : Int) := of_decide_eq_true (by first | (with_reducible assumption) | assumption)
                obtain ⟨ad129, e129, hx129_0⟩ := Kd.at_int (Kd.R_reads' HO_3.out).2.2 (ji29) p129 q129
                obtain rfl : ad123 = ad129 := (by injection e129)
                replace p129 := eq_true p129
                replace q129 := eq_true q129
                have p130 : 0 ≤ ((ji32) : Int) := of_decide_eq_true (by first | (with_reducible assumption) | assumption)
                have q130 : (ji32) < (x3_2.length : Int) := of_decide_eq_true (by first | (with_reducible assumption) | assumption)
                obtain ⟨ad130, e130, hx130_0⟩ := Kd.at_int (Kd.R_reads' HO_3.out).2.2 (ji32) p130 q130
                obtain rfl : ad123 = ad130 := (by injection e130)
                replace p130 := eq_true p130
                replace q130 := eq_true q130
                refine start_ (n := 19) (S := fun w' => w'.cell? (ad123.add ((ji29)).toNat) = some (.int .u32 (rd x3_2 (ji29))) ∧ w'.cell? (ad123.add ((ji32)).toNat) = some (.int .u32 (rd x3_2 (ji32)))) (ds := [16, 17]) #[false, false, false, false, false, false, false, false, false, false, false, false, false, false, false, false, false, false, false] (by kernel_rfl) rfl rfl ⟨hx129_0, hx130_0⟩ (fun hHeld => ?_); refine with_tabW grapevineref01_spread.tab13 grapevineref01_spread.bits13 (fun HT_ HW_ => ?_)
                generalize wr.drew = w37 at HO_3 HB hx129_0 hx130_0 hHeld ⊢
                refine pure_ (i := 0) (N := some 80) (v := ?_) (a' := ?_) #[true, false, false, false, false, false, false, false, false, false, false, false, false, false, false, false, false, false, false] rfl rfl (zP HT_.out (by kernel_rfl)) (fun _ _ _ h => h) (Or.inl ⟨by rfl, ?_⟩) ?_ ?_
                rotate_left
                ·
                 intro w'
                 go_simp
                 with_reducible rfl
                rotate_left
                ·
                 simp only [Act.put, List.setIfInBounds_toArray, List.set_cons_zero, List.set_cons_succ, i64_w, i32_w]
                 rfl
                refine pure_ (i := 1) (N := some 81) (v := ?_) (a' := ?_) #[true, true, false, false, false, false, false, false, false, false, false, false, false, false, false, false, false, false, false] rfl rfl (zP HT_.out (by kernel_rfl)) (fun _ _ _ h => h) (Or.inl ⟨by rfl, ?_⟩) ?_ ?_
                rotate_left
                ·
                 intro w'
                 go_simp
                 with_reducible rfl
                rotate_left
                ·
                 simp only [Act.put, List.setIfInBounds_toArray, List.set_cons_zero, List.set_cons_succ, i64_w, i32_w]
                 rfl
                refine pure_ (i := 2) (N := some 82) (v := ?_) (a' := ?_) #[true, true, true, false, false, false, false, false, false, false, false, false, false, false, false, false, false, false, false] rfl rfl (zP HT_.out (by kernel_rfl)) (fun _ _ _ h => h) (Or.inl ⟨by rfl, ?_⟩) ?_ ?_
                rotate_left
                ·
                 intro w'
                 go_simp
                 with_reducible rfl
                rotate_left
                ·
                 simp only [Act.put, List.setIfInBounds_toArray, List.set_cons_zero, List.set_cons_succ, i64_w, i32_w]
                 rfl
                refine pure_ (i := 3) (N := some 83) (v := ?_) (a' := ?_) #[true, true, true, true, false, false, false, false, false, false, false, false, false, false, false, false, false, false, false] rfl rfl (zP HT_.out (by kernel_rfl)) (fun _ _ _ h => h) (Or.inl ⟨by rfl, ?_⟩) ?_ ?_
                rotate_left
                ·
                 intro w'
                 go_simp
                 with_reducible rfl
                rotate_left
                ·
                 simp only [Act.put, List.setIfInBounds_toArray, List.set_cons_zero, List.set_cons_succ, i64_w, i32_w]
                 rfl
                refine pure_ (i := 4) (N := some 84) (v := ?_) (a' := ?_) #[true, true, true, true, true, false, false, false, false, false, false, false, false, false, false, false, false, false, false] rfl rfl (zP HT_.out (by kernel_rfl)) (fun _ _ _ h => h) (Or.inl ⟨by rfl, ?_⟩) ?_ ?_
                rotate_left
                ·
                 intro w'
                 go_simp
                 with_reducible rfl
                rotate_left
                ·
                 simp only [Act.put, List.setIfInBounds_toArray, List.set_cons_zero, List.set_cons_succ, i64_w, i32_w]
                 rfl
                refine pure_ (i := 6) (N := some 86) (v := ?_) (a' := ?_) #[true, true, true, true, true, false, true, false, false, false, false, false, false, false, false, false, false, false, false] rfl rfl (zP HT_.out (by kernel_rfl)) (fun _ _ _ h => h) (Or.inl ⟨by rfl, ?_⟩) ?_ ?_
                rotate_left
                ·
                 intro w'
                 go_simp
                 with_reducible rfl
                rotate_left
                ·
                 simp only [Act.put, List.setIfInBounds_toArray, List.set_cons_zero, List.set_cons_succ, i64_w, i32_w]
                 rfl
                refine pure_ (i := 8) (N := some 88) (v := ?_) (a' := ?_) #[true, true, true, true, true, false, true, false, true, false, false, false, false, false, false, false, false, false, false] rfl rfl (zP HT_.out (by kernel_rfl)) (fun _ _ _ h => h) (Or.inl ⟨by rfl, ?_⟩) ?_ ?_
                rotate_left
                ·
                 intro w'
                 go_simp
                 with_reducible rfl
                rotate_left
                ·
                 simp only [Act.put, List.setIfInBounds_toArray, List.set_cons_zero, List.set_cons_succ, i64_w, i32_w]
                 rfl
                refine pure_ (i := 9) (N := some 89) (v := ?_) (a' := ?_) #[true, true, true, true, true, false, true, false, true, true, false, false, false, false, false, false, false, false, false] rfl rfl (zP HT_.out (by kernel_rfl)) (fun _ _ _ h => h) (Or.inl ⟨by rfl, ?_⟩) ?_ ?_
                rotate_left
                ·
                 intro w'
                 go_simp
                 with_reducible rfl
                rotate_left
                ·
                 simp only [Act.put, List.setIfInBounds_toArray, List.set_cons_zero, List.set_cons_succ, i64_w, i32_w]
                 rfl
                refine pure_ (i := 10) (N := some 90) (v := ?_) (a' := ?_) #[true, true, true, true, true, false, true, false, true, true, true, false, false, false, false, false, false, false, false] rfl rfl (zP HT_.out (by kernel_rfl)) (fun _ _ _ h => h) (Or.inl ⟨by rfl, ?_⟩) ?_ ?_
                rotate_left
                ·
                 intro w'
                 go_simp
                 with_reducible rfl
                rotate_left
                ·
                 simp only [Act.put, List.setIfInBounds_toArray, List.set_cons_zero, List.set_cons_succ, i64_w, i32_w]
                 rfl
                refine pure_ (i := 11) (N := some 91) (v := ?_) (a' := ?_) #[true, true, true, true, true, false, true, false, true, true, true, true, false, false, false, false, false, false, false] rfl rfl (zP HT_.out (by kernel_rfl)) (fun _ _ _ h => h) (Or.inl ⟨by rfl, ?_⟩) ?_ ?_
                rotate_left
                ·
                 intro w'
                 go_simp
                 with_reducible rfl
                rotate_left
                ·
                 simp only [Act.put, List.setIfInBounds_toArray, List.set_cons_zero, List.set_cons_succ, i64_w, i32_w]
                 rfl
                refine pure_ (i := 14) (N := some 94) (v := ?_) (a' := ?_) #[true, true, true, true, true, false, true, false, true, true, true, true, false, false, true, false, false, false, false] rfl rfl (zP HT_.out (by kernel_rfl)) (fun _ _ _ h => h) (Or.inl ⟨by rfl, ?_⟩) ?_ ?_
                rotate_left
                ·
                 intro w'
                 go_simp
                 with_reducible rfl
                rotate_left
                ·
                 simp only [Act.put, List.setIfInBounds_toArray, List.set_cons_zero, List.set_cons_succ, i64_w, i32_w]
                 rfl
                refine take_ (i := 5) (N := some 85) (v := ?_) (a' := ?_) #[true, true, true, true, true, true, true, false, true, true, true, true, false, false, true, false, false, false, false] rfl rfl (zR HT_.out HW_.out (by kernel_rfl)) (fun _ _ _ h => h) (Or.inl ⟨by rfl, ?_⟩) hHeld ?_ ?_
                rotate_left
                ·
                 rintro w' ⟨s0, s1⟩
                 go_simp
                 with_reducible rfl
                rotate_left
                ·
                 simp only [Act.put, List.setIfInBounds_toArray, List.set_cons_zero, List.set_cons_succ, i64_w, i32_w]
                 rfl
                refine pure_ (i := 7) (N := some 87) (v := ?_) (a' := ?_) #[true, true, true, true, true, true, true, true, true, true, true, true, false, false, true, false, false, false, false] rfl rfl (zP HT_.out (by kernel_rfl)) (fun _ _ _ h => h) (Or.inl ⟨by rfl, ?_⟩) ?_ ?_
                rotate_left
                ·
                 intro w'
                 go_simp
                 with_reducible rfl
                rotate_left
                ·
                 simp only [Act.put, List.setIfInBounds_toArray, List.set_cons_zero, List.set_cons_succ, i64_w, i32_w]
                 rfl
                refine take_ (i := 12) (N := some 92) (v := ?_) (a' := ?_) #[true, true, true, true, true, true, true, true, true, true, true, true, true, false, true, false, false, false, false] rfl rfl (zR HT_.out HW_.out (by kernel_rfl)) (fun _ _ _ h => h) (Or.inl ⟨by rfl, ?_⟩) hHeld ?_ ?_
                rotate_left
                ·
                 rintro w' ⟨s0, s1⟩
                 go_simp
                 with_reducible rfl
                rotate_left
                ·
                 simp only [Act.put, List.setIfInBounds_toArray, List.set_cons_zero, List.set_cons_succ, i64_w, i32_w]
                 rfl
                refine pure_ (i := 13) (N := some 93) (v := ?_) (a' := ?_) #[true, true, true, true, true, true, true, true, true, true, true, true, true, true, true, false, false, false, false] rfl rfl (zP HT_.out (by kernel_rfl)) (fun _ _ _ h => h) (Or.inl ⟨by rfl, ?_⟩) ?_ ?_
                rotate_left
                ·
                 intro w'
                 go_simp
                 with_reducible rfl
                rotate_left
                ·
                 simp only [Act.put, List.setIfInBounds_toArray, List.set_cons_zero, List.set_cons_succ, i64_w, i32_w]
                 rfl
                refine pure_ (i := 15) (N := some 95) (v := ?_) (a' := ?_) #[true, true, true, true, true, true, true, true, true, true, true, true, true, true, true, true, false, false, false] rfl rfl (zP HT_.out (by kernel_rfl)) (fun _ _ _ h => h) (Or.inl ⟨by rfl, ?_⟩) ?_ ?_
                rotate_left
                ·
                 intro w'
                 go_simp
                 with_reducible rfl
                rotate_left
                ·
                 simp only [Act.put, List.setIfInBounds_toArray, List.set_cons_zero, List.set_cons_succ, i64_w, i32_w]
                 rfl
                refine last_ (i := 16) (N := some 96) #[true, true, true, true, true, true, true, true, true, true, true, true, true, true, true, true, true, false, false] rfl rfl (one_of HT_.out (by kernel_rfl)) (by decide) (fun K hK => ?_)
                refine value_ (w1 := ?_) (v := ?_) (by rfl) rfl ?_ ?_
                rotate_left 2
                ·
                 go_simp
                 constructor
                 · rfl
                 · rfl
                refine hK.out _ _ ?_
                clear hK K
                refine norm_ (a' := ?_) ?_ ?_
                rotate_left
                ·
                 show Act.put _ (some 96) _ = _
                 simp only [Act.put, List.setIfInBounds_toArray, List.set_cons_zero, List.set_cons_succ, i64_w, i32_w]
                 rfl
                refine last_ (i := 17) (N := some 97) #[true, true, true, true, true, true, true, true, true, true, true, true, true, true, true, true, true, true, false] rfl rfl (one_of HT_.out (by kernel_rfl)) (by decide) (fun K hK => ?_)
                refine Kd.R_append_step (Kd.int .u32) (w0 := w) w.heap.size (by rfl) (.tmp 80) (.tmp 96) 73 72 (.int .u32 0) 4 rfl Tryd.underlying73 info72 rfl (by decide) (by omega) (.slice (some ad123) x3_2.length co36) x3_2 (((((((rd x3_2 (ji29)) + (Go.bits .xor .u32 (Go.bits .xor .u32 t125 t126) ((Int.tdiv (rd x3_2 (ji19)) 8) % 4294967296))) % 4294967296) + (rd x3_2 (ji32))) % 4294967296) + (Go.bits .xor .u32 (Go.bits .xor .u32 t127 t128) ((Int.tdiv (rd x3_2 (ji22)) 1024) % 4294967296))) % 4294967296) [.int .u32 (((((((rd x3_2 (ji29)) + (Go.bits .xor .u32 (Go.bits .xor .u32 t125 t126) ((Int.tdiv (rd x3_2 (ji19)) 8) % 4294967296))) % 4294967296) + (rd x3_2 (ji32))) % 4294967296) + (Go.bits .xor .u32 (Go.bits .xor .u32 t127 t128) ((Int.tdiv (rd x3_2 (ji22)) 1024) % 4294967296))) % 4294967296)] (fun _ => True) (fun _ => False) rfl rfl ?aP (fun _ hk => hk.elim) ?aF ?aO ?aB ?aS ?aL ?_
                (case aP => exact rfl)
                (case aB => exact (by repeat (first | (with_reducible first | exact HB.out | apply zC | apply zA | apply zB) | exact HB.out)))
                (case aF => exact (fun _ _ => trivial))
                (case aO => exact (by (with_reducible repeat (first | apply Kd.R_alloc | apply Kd.R_drewN | apply Kd.R_drew)); exact HO_3.out))
                (case aS => exact (zK (by repeat (first | (with_reducible first | exact HB.out | apply zC | apply zA | apply zB) | exact HB.out))))
                (case aL => have := LMc35.out; omega)
                intro v132 w38 ho hb hg hat
                rw [← Ny131.out] at ho
                have n0_ := Aside0.mk (hb)
                have n1_ := Aside0.mk (ho)
                clear HB
                clear HO_3
                have HB := n0_
                have HO133 := n1_
                clear n0_ n1_
                clear ho hb hg hat
                refine hK.out _ _ ?_
                clear hK K
                refine norm_ (a' := ?_) ?_ ?_
                rotate_left
                ·
                 show Act.put _ (some 97) _ = _
                 simp only [Act.put, List.setIfInBounds_toArray, List.set_cons_zero, List.set_cons_succ, i64_w, i32_w]
                 rfl
                refine pure_ (i := 18) (N := some 3) (v := ?_) (a' := ?_) #[true, true, true, true, true, true, true, true, true, true, true, true, true, true, true, true, true, true, true] rfl rfl (zP HT_.out (by kernel_rfl)) (fun _ _ _ h => h) (Or.inl ⟨by rfl, ?_⟩) ?_ ?_
                rotate_left
                ·
                 intro w'
                 go_simp
                 with_reducible rfl
                rotate_left
                ·
                 simp only [Act.put, List.setIfInBounds_toArray, List.set_cons_zero, List.set_cons_succ, i64_w, i32_w]
                 rfl
                refine done_ (done_of HT_.out (by kernel_rfl)) ?_
                try go_wp2
                go_roundg k2
                case measure => have := HK1.out; have := HK2.out; omega
                case rel => exact ⟨(y131), (wrap64 (x5_2 + 1)), (by first | rfl | (simp; done) | (simp [*]; done)), H', ⟨by have := HK1.out; have := HK2.out; omega⟩, ⟨by (with_reducible repeat (first | apply Kd.R_alloc | apply Kd.R_drewN | apply Kd.R_drew)); exact HO133.out⟩, ⟨by repeat (first | (with_reducible first | exact HB.out | apply zC | apply zA | apply zB) | exact HB.out)⟩⟩
               ·
                rw [if_neg c35] at H
                exact absurd H (by simp)
              ·
               rw [if_neg c34] at H
               exact absurd H (by simp)
             ·
              rw [if_neg c33] at H
              exact absurd H (by simp)
            ·
             rw [if_neg c31] at H
             exact absurd H (by simp)
           ·
            rw [if_neg c30] at H
            exact absurd H (by simp)
          ·
           rw [if_neg c24] at H
           exact absurd H (by simp)
         ·
          rw [if_neg c23] at H
          exact absurd H (by simp)
        ·
         rw [if_neg c21] at H
         exact absurd H (by simp)
       ·
        rw [if_neg c20] at H
        exact absurd H (by simp)
      ·
       rw [if_neg c18] at H
       have c18b0 : decide (x5_2 < 64) = false := decide_eq_false c18
       clear c18
       obtain rfl := Option.some.inj H
       go_wp2
       go_ret
       exact ⟨_, by first | rfl | (simp [zO, zN] <;> rfl) | (simp [*, zO, zN] <;> rfl), by (with_reducible repeat (first | apply Kd.R_alloc | apply Kd.R_drewN | apply Kd.R_drew)); exact HO_3.out, by repeat (first | (with_reducible first | exact HB.out | apply zC | apply zA | apply zB) | exact HB.out)⟩
end Go.Proofs.YtembjjombhfglaaDoor.GR
