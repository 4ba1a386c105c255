import Derived.Test.YtembjjombhfglaaDoorG0
import Derived.Test.YtembjjombhfglaaDoorG4
import Derived.Test.YtembjjombhfglaaDoorG5
import Derived.Test.YtembjjombhfglaaDoorG6
namespace Go.Proofs.YtembjjombhfglaaDoor.G
open Go.RowKit Go.Proofs.YtembjjombhfglaaDoorW.PrintWords Go.Proofs.YtembjjombhfglaaDoorW.PrintLast Go.Proofs.YtembjjombhfglaaDoorW.PrintMore
attribute [local go_sem] max2_int min2_int max_two min_two max_three min_three max_four min_four
set_option linter.unusedVariables false
set_option linter.unusedSimpArgs false
mutual
def patch_Right.l0 : Nat → List ByteArray → Int → Int → List ByteArray → ByteArray → ByteArray → List (S48) → Option (Bool)
 | 0, _, _, _, _, _, _, _ => none
 | k + 1, x27, x28, x29, x194000, x194001, x194002, x194003 => if x29 < x28 then (if 0 ≤ x29 then (if x29 < (x27.length : Int) then (if ((rdOf ByteArray.empty x27 x29).size : Int) = 32 then (if x29 > 0 then (if 0 ≤ (wrap64 (x29 - 1)) then (if (wrap64 (x29 - 1)) < (x194000.length : Int) then (if ((Op.bytesLess ((rdOf ByteArray.empty x194000 (wrap64 (x29 - 1))).toList) ((rdOf ByteArray.empty x27 x29).toList)) = true) then (patch_Right.l0 k x27 x28 (wrap64 (x29 + 1)) x194000 x194001 x194002 x194003) else (some false)) else (none)) else (none)) else (patch_Right.l0 k x27 x28 (wrap64 (x29 + 1)) x194000 x194001 x194002 x194003)) else (some false)) else (none)) else (none)) else (patch_Right.l1 k x194003 (x194003.length : Int) 0 x194000 x194001 x194002 x194003)
def patch_Right.l1 : Nat → List (S48) → Int → Int → List ByteArray → ByteArray → ByteArray → List (S48) → Option (Bool)
 | 0, _, _, _, _, _, _, _ => none
 | k + 1, x53, x54, x55, x194000, x194001, x194002, x194003 => if x55 < x54 then (if 0 ≤ x55 then (if x55 < (x53.length : Int) then ((tree_Path.f k ((zJ x53 x55).f0)).bind fun t205 => (if x55 = 0 then (if ((zJ x53 x55).f1 = true) then ((patch_all.f k (([t205, true, decide ((((zJ x53 x55).f2).size : Int) ≤ 65536), (((zJ x53 x55).f2).toList == ([] : List UInt8))] : List Bool))).bind fun t209 => (if t209 = true then (patch_Right.l1 k x53 x54 (wrap64 (x55 + 1)) x194000 x194001 x194002 x194003) else (some false))) else ((patch_all.f k (([t205, true, decide ((((zJ x53 x55).f2).size : Int) ≤ 65536), true] : List Bool))).bind fun t213 => (if t213 = true then (patch_Right.l1 k x53 x54 (wrap64 (x55 + 1)) x194000 x194001 x194002 x194003) else (some false)))) else (if 0 ≤ (mx 0 (wrap64 (x55 - 1))) then (if (mx 0 (wrap64 (x55 - 1))) < (x194003.length : Int) then (if ((zJ x53 x55).f1 = true) then ((patch_all.f k (([t205, (Op.bytesLess (((zJ x194003 (mx 0 (wrap64 (x55 - 1)))).f0).toList) (((zJ x53 x55).f0).toList)), decide ((((zJ x53 x55).f2).size : Int) ≤ 65536), (((zJ x53 x55).f2).toList == ([] : List UInt8))] : List Bool))).bind fun t218 => (if t218 = true then (patch_Right.l1 k x53 x54 (wrap64 (x55 + 1)) x194000 x194001 x194002 x194003) else (some false))) else ((patch_all.f k (([t205, (Op.bytesLess (((zJ x194003 (mx 0 (wrap64 (x55 - 1)))).f0).toList) (((zJ x53 x55).f0).toList)), decide ((((zJ x53 x55).f2).size : Int) ≤ 65536), true] : List Bool))).bind fun t222 => (if t222 = true then (patch_Right.l1 k x53 x54 (wrap64 (x55 + 1)) x194000 x194001 x194002 x194003) else (some false)))) else (none)) else (none)))) else (none)) else (none)) else ((patch_form.f k x194000 x194001 x194002 x194003).bind fun t200 => (some (decide ((t200.length : Int) ≤ 131072))))
end
def patch_Right.f (k : Nat) (l0_0 : List ByteArray) (a0_1 : ByteArray) (a0_2 : ByteArray) (l0_3 : List (S48)) : Option (Bool) := if l0_3.length = 0 then ((patch_all.f k (([decide ((l0_0.length : Int) ≤ 16), decide ((a0_1.size : Int) ≤ 100), decide ((a0_2.size : Int) ≤ 1000), decide ((l0_3.length : Int) ≤ 100)] : List Bool))).bind fun t197 => (if t197 = true then (patch_Right.l0 k l0_0 (l0_0.length : Int) 0 l0_0 a0_1 a0_2 l0_3) else (some false))) else none
set_option maxHeartbeats 8000000 in
set_option maxRecDepth 100000 in
theorem patch_Right.calls (k : Nat) (A0_0 : Option Addr) (c0_0 : Nat) (l0_0 : List ByteArray) (a0_1 : ByteArray) (a0_2 : ByteArray) (A0_3 : Option Addr) (c0_3 : Nat) (l0_3 : List (S48)) (r : Bool) (w : World) (hr0_0 : Kd.C Kd.string w A0_0 l0_0.length l0_0) (hc0_0 : l0_0.length ≤ c0_0) (hr0_3 : Kd.C k48 w A0_3 l0_3.length l0_3) (hc0_3 : l0_3.length ≤ c0_3) (h : patch_Right.f k l0_0 a0_1 a0_2 l0_3 = some r) :
  Calls Tryd.prog 19 #[.agg #[.slice A0_0 l0_0.length c0_0, .string a0_1, .string a0_2, .slice A0_3 l0_3.length c0_3]] w fun e w' => e = .returned (.bool r) ∧ Below w.heap.size w w' := by
 have hu25 := Tryd.underlying25
 have hu48 := Tryd.underlying48
 have HR0_0 := Aside0.mk hr0_0
 have HC0_0 := Aside0.mk hc0_0
 clear hr0_0 hc0_0
 have HR0_3 := Aside0.mk hr0_3
 have HC0_3 := Aside0.mk hc0_3
 clear hr0_3 hc0_3
 have HB := Aside0.mk (Below.refl w.heap.size w)
 have HCS : Aside0 (l0_3.length = 0) := ⟨by unfold patch_Right.f at h; by_cases h0_ : l0_3.length = 0; exact h0_; rw [if_neg h0_] at h; exact absurd h (by simp)⟩
 have H : ((patch_all.f k (([decide ((l0_0.length : Int) ≤ 16), decide ((a0_1.size : Int) ≤ 100), decide ((a0_2.size : Int) ≤ 1000), decide ((l0_3.length : Int) ≤ 100)] : List Bool))).bind fun t197 => (if t197 = true then (patch_Right.l0 k l0_0 (l0_0.length : Int) 0 l0_0 a0_1 a0_2 l0_3) else (some false))) = some r := by unfold patch_Right.f at h; rw [if_pos HCS.out] at h; exact h
 clear h
 obtain ⟨y194, hy194⟩ : ∃ y_ : List Bool, y_ = (([decide ((l0_0.length : Int) ≤ 16), decide ((a0_1.size : Int) ≤ 100), decide ((a0_2.size : Int) ≤ 1000), decide ((l0_3.length : Int) ≤ 100)] : List Bool)) := ⟨_, rfl⟩
 replace H : ((patch_all.f k y194).bind fun t197 => (if t197 = true then (patch_Right.l0 k l0_0 (l0_0.length : Int) 0 l0_0 a0_1 a0_2 l0_3) else (some false))) = some r := by first | (rw [hy194]; with_reducible exact H) | (have H2_ := (Option.bind_some _ _).symm.trans H; rw [hy194]; with_reducible exact H2_) | (have H2_ := (Option.bind_some _ _).symm.trans H; with_reducible exact H2_) | with_reducible exact H | (rw [hy194]; exact H) | exact H
 have Ny194 := Aside0.mk hy194
 clear hy194
 replace H := Option.bind_eq_some_iff.mp H
 obtain ⟨t197, A20, H⟩ := H
 replace H : (if t197 = true then (patch_Right.l0 k l0_0 (l0_0.length : Int) 0 l0_0 a0_1 a0_2 l0_3) else (some false)) = some r := H
 have A2 := Aside0.mk A20
 clear A20
 by_cases c3 : t197 = true
 ·
  subst c3
  have H1 : (patch_Right.l0 k l0_0 (l0_0.length : Int) 0 l0_0 a0_1 a0_2 l0_3) = some r := by rw [if_pos rfl] at H; exact H
  clear H
  have H := H1
  clear H1
  have H' := Aside0.mk H
  clear H
  go_enter Tryd.func19, Tryd.ntmps19
  go_wp2_with (first | ((with_reducible refine gate_dst (N := 1) rfl ?_); (try (refine gate_guard (by rfl) ?_; dsimp only)); refine box_event ?hg (N := 1) ?hd (cs := #[.slice A0_0 l0_0.length c0_0, .string a0_1, .string a0_2, .slice A0_3 l0_3.length c0_3]) (t := 25) ?hr ?_; (case hd => rfl); (case hg => rfl); (case hr => first | (go_simp; done) | (go_simp; rfl)); intro gb193 hg w4 hbox hb; have n0_ := Aside0.mk (zL (by repeat (first | (with_reducible first | exact HB.out | apply zC | apply zA | apply zB) | exact HB.out)) hb); have n1_ := Aside0.mk (hbox); have n2_ := Aside0.mk ((by rw [hg]; exact (zK (by repeat (first | (with_reducible first | exact HB.out | apply zC | apply zA | apply zB) | exact HB.out))) : w.heap.size ≤ gb193)); have n3_ := Aside0.mk ((by rw [hg]; exact (zK (by repeat (first | (with_reducible first | exact HB.out | apply zC | apply zA | apply zB) | exact HB.out))) : w.heap.size ≤ gb193)); clear HB; have HB := n0_; have BK193 := n1_; have GW193 := n2_; have GE193 := n3_; clear n0_ n1_ n2_ n3_; clear hb hbox hg; have hcz5_0 : w4.cell? ⟨gb193, 0, none⟩ = some (.slice A0_0 l0_0.length c0_0) := (zD BK193.out 0).trans rfl; have hcz5_1 : w4.cell? ⟨gb193, 1, none⟩ = some (.string a0_1) := (zD BK193.out 1).trans rfl; have hcz5_2 : w4.cell? ⟨gb193, 2, none⟩ = some (.string a0_2) := (zD BK193.out 2).trans rfl; have hcz5_3 : w4.cell? ⟨gb193, 3, none⟩ = some (.slice A0_3 l0_3.length c0_3) := (zD BK193.out 3).trans rfl; have hfz5_0 := zH BK193.out 0; have hfz5_1 := zH BK193.out 1; have hfz5_2 := zH BK193.out 2; have hfz5_3 := zH BK193.out 3) | ((with_reducible refine gate_dst (N := 23) rfl ?_); (try (refine gate_guard (by rfl) ?_; dsimp only)); refine Kd.R_lit Kd.bool _ 4 ?hg (N := 23) ?hd (xs := ([decide ((l0_0.length : Int) ≤ 16), decide ((a0_1.size : Int) ≤ 100), decide ((a0_2.size : Int) ≤ 1000), decide ((l0_3.length : Int) ≤ 100)] : List Bool)) (inner := [.bool (decide ((l0_0.length : Int) ≤ 16)), .bool (decide ((a0_1.size : Int) ≤ 100)), .bool (decide ((a0_2.size : Int) ≤ 1000)), .bool (decide ((l0_3.length : Int) ≤ 100))]) (ok := fun _ => True) (okp := fun _ => True) ?hr ?hp (fun _ hk => hk) trivial (Below.refl _ _) (Nat.le_refl _) (by simp) ?_; (case hd => rfl); (case hg => rfl); (case hr => first | (go_simp; done) | (go_simp; rfl)); (case hp => exact (Reps.one (show Kd.M Kd.bool _ _ _ (decide ((l0_0.length : Int) ≤ 16)) [.bool (decide ((l0_0.length : Int) ≤ 16))] from rfl) (Reps.one (show Kd.M Kd.bool _ _ _ (decide ((a0_1.size : Int) ≤ 100)) [.bool (decide ((a0_1.size : Int) ≤ 100))] from rfl) (Reps.one (show Kd.M Kd.bool _ _ _ (decide ((a0_2.size : Int) ≤ 1000)) [.bool (decide ((a0_2.size : Int) ≤ 1000))] from rfl) (Reps.one (show Kd.M Kd.bool _ _ _ (decide ((l0_3.length : Int) ≤ 100)) [.bool (decide ((l0_3.length : Int) ≤ 100))] from rfl) (Reps.none _ _)))))); intro v195 w6 ho7 hb hg_ hnew_; clear hg_ hnew_; (first | rw [← Ny194.out] at ho7 | (simp only [Int.reduceToNat] at ho7; rw [← Ny194.out] at ho7)); have n0_ := Aside0.mk (Kd.R_lower ho7 (zK (by repeat (first | (with_reducible first | exact HB.out | apply zC | apply zA | apply zB | refine zE ?_ GE193.out) | exact HB.out)))); have n1_ := Aside0.mk (zM (g := gb193) (o := .cells #[.slice A0_0 l0_0.length c0_0, .string a0_1, .string a0_2, .slice A0_3 l0_3.length c0_3] 25 (0, 0)) (by (with_reducible repeat (first | refine zG ?_ _ | refine zI ?_ | refine zF ?_ _)); exact BK193.out) hb); have n2_ := Aside0.mk (zL (by repeat (first | (with_reducible first | exact HB.out | apply zC | apply zA | apply zB | refine zE ?_ GE193.out) | exact HB.out)) hb); clear BK193; clear HB; have HO196 := n0_; have BK193 := n1_; have HB := n2_; clear n0_ n1_ n2_; clear hb ho7; obtain ⟨Ao8, co8, eo8⟩ := Kd.R_slice HO196.out; subst eo8) | ((with_reducible refine gate_callee (f := 34) rfl ?_); refine goesL_ (some 24) rfl rfl Tryd.func34 (by kernel_rfl) rfl #[.slice Ao8 y194.length co8] rfl (by (try simp only [List.map_toArray, List.map_cons, List.map_nil]); first | done | rfl | (simp only [List.length_drop, List.length_take]; rfl)) ?_; (with_reducible refine (patch_all.calls k _ _ y194 true _ ?side1 ?side2 A2.out).mono ?_); (case side1 => repeat (first | exact (Kd.R_reads' HO196.out).2.2 | (with_reducible refine Kd.C_alloc ?_ _) | (with_reducible refine Kd.C_drewN ?_ _) | (with_reducible refine Kd.C_drew ?_))); (case side2 => exact (Kd.R_reads' HO196.out).2.1); rintro e w' ⟨rfl, ⟨nd, rfl⟩⟩; refine ⟨_, rfl, ?_⟩; have hcz9_0 : w6.cell? ⟨gb193, 0, none⟩ = some (.slice A0_0 l0_0.length c0_0) := (zD BK193.out 0).trans rfl; have hcz9_1 : w6.cell? ⟨gb193, 1, none⟩ = some (.string a0_1) := (zD BK193.out 1).trans rfl; have hcz9_2 : w6.cell? ⟨gb193, 2, none⟩ = some (.string a0_2) := (zD BK193.out 2).trans rfl; have hcz9_3 : w6.cell? ⟨gb193, 3, none⟩ = some (.slice A0_3 l0_3.length c0_3) := (zD BK193.out 3).trans rfl; have hfz9_0 := zH BK193.out 0; have hfz9_1 := zH BK193.out 1; have hfz9_2 := zH BK193.out 2; have hfz9_3 := zH BK193.out 3))
  go_loopg [29] k (fun kq v29 w' => ∃ (x29_1 : Int), v29 = .int .i64 x29_1 ∧ Aside0 (patch_Right.l0 kq l0_0 (l0_0.length : Int) x29_1 l0_0 a0_1 a0_2 l0_3 = some r) ∧ Aside0 (kq ≤ k) ∧ Aside0 (w'.heap[gb193]? = some (.cells #[(.slice A0_0 l0_0.length c0_0), .string a0_1, .string a0_2, (.slice A0_3 l0_3.length c0_3)] 25 (0, 0))) ∧ Aside0 (Below w.heap.size w w'))
  case atStart => exact ⟨(0), (by first | rfl | (simp; done) | (simp [*]; done)), H', ⟨Nat.le_refl _⟩, ⟨by (with_reducible repeat (first | refine zG ?_ _ | refine zI ?_ | refine zF ?_ _)); exact BK193.out⟩, ⟨by repeat (first | (with_reducible first | exact HB.out | apply zC | apply zA | apply zB | refine zE ?_ GE193.out) | exact HB.out)⟩⟩
  case round =>
   clear H'
   try clear c1
   try clear p2
   try clear c3
   try clear hcz5_0
   try clear hcz5_1
   try clear hcz5_2
   try clear hcz5_3
   try clear hcz9_0
   try clear hcz9_1
   try clear hcz9_2
   try clear hcz9_3
   try clear hfz5_0
   try clear hfz5_1
   try clear hfz5_2
   try clear hfz5_3
   try clear hfz9_0
   try clear hfz9_1
   try clear hfz9_2
   try clear hfz9_3
   obtain ⟨x29_1, rfl, HA, HK1, BK193, HB⟩ := hrel
   cases gk with
   | zero => exact absurd HA.out (by simp [patch_Right.l0])
   | succ k1 =>
    have H := HA.out
    clear HA
    simp only [patch_Right.l0] at H
    by_cases c10 : x29_1 < (l0_0.length : Int)
    ·
     rw [if_pos c10] at H
     have c10b0 : decide (x29_1 < (l0_0.length : Int)) = true := decide_eq_true c10
     clear c10
     by_cases c11 : 0 ≤ x29_1
     ·
      rw [if_pos c11] at H
      have c11b0 : decide (0 ≤ x29_1) = true := decide_eq_true c11
      clear c11
      by_cases c12 : x29_1 < (l0_0.length : Int)
      ·
       rw [if_pos c12] at H
       have c12b0 : decide (x29_1 < (l0_0.length : Int)) = true := decide_eq_true c12
       clear c12
       by_cases c13 : ((rdOf ByteArray.empty l0_0 x29_1).size : Int) = 32
       ·
        rw [if_pos c13] at H
        have c13b0 : (((rdOf ByteArray.empty l0_0 x29_1).size : Int) == 32) = true := beq_iff_eq.mpr c13
        have c13b1 : (((rdOf ByteArray.empty l0_0 x29_1).size : Int) != 32) = false := bne_eq_false_iff_eq.mpr c13
        clear c13
        by_cases c14 : x29_1 > 0
        ·
         rw [if_pos c14] at H
         have c14b0 : decide (0 < x29_1) = true := decide_eq_true c14
         clear c14
         obtain ⟨ji15, hji15⟩ : ∃ j_ : Int, (wrap64 (x29_1 - 1)) = j_ := ⟨_, rfl⟩
         replace H : (if 0 ≤ (ji15) then (if (ji15) < (l0_0.length : Int) then (if ((Op.bytesLess ((rdOf ByteArray.empty l0_0 (ji15)).toList) ((rdOf ByteArray.empty l0_0 x29_1).toList)) = true) then (patch_Right.l0 k1 l0_0 (l0_0.length : Int) (wrap64 (x29_1 + 1)) l0_0 a0_1 a0_2 l0_3) else (some false)) else (none)) else (none)) = some r := by first | (rw [hji15] at H; exact H) | (simp only [hji15] at H ⊢; exact H)
         have hji15w : (IntKind.i64.wrap (x29_1 - 1)) = ji15 := (i64_w _).trans hji15
         by_cases c16 : 0 ≤ (ji15)
         ·
          rw [if_pos c16] at H
          have c16b0 : decide (0 ≤ (ji15)) = true := decide_eq_true c16
          clear c16
          by_cases c17 : (ji15) < (l0_0.length : Int)
          ·
           rw [if_pos c17] at H
           have c17b0 : decide ((ji15) < (l0_0.length : Int)) = true := decide_eq_true c17
           clear c17
           by_cases c18 : ((Op.bytesLess ((rdOf ByteArray.empty l0_0 (ji15)).toList) ((rdOf ByteArray.empty l0_0 x29_1).toList)) = true)
           ·
            rw [if_pos c18] at H
            have c18b0 : (Op.bytesLess ((rdOf ByteArray.empty l0_0 (ji15)).toList) ((rdOf ByteArray.empty l0_0 x29_1).toList)) = true := c18
            clear c18
            have H' := Aside0.mk H
            clear H
            have p198 : 0 ≤ (x29_1 : Int) := of_decide_eq_true (by first | (with_reducible assumption) | assumption)
            have q198 : x29_1 < (l0_0.length : Int) := of_decide_eq_true (by first | (with_reducible assumption) | assumption)
            obtain ⟨ad198, e198, hx198_0⟩ := Kd.at_string HR0_0.out x29_1 p198 q198
            cases e198
            replace hx198_0 := (HB.out.cell (World.block_lt_of_cell? w _ hx198_0)).trans hx198_0
            replace p198 := eq_true p198
            replace q198 := eq_true q198
            have hcz19_0 : wr.cell? ⟨gb193, 0, none⟩ = some (.slice (some ad198) l0_0.length c0_0) := (zD BK193.out 0).trans rfl
            have hcz19_1 : wr.cell? ⟨gb193, 1, none⟩ = some (.string a0_1) := (zD BK193.out 1).trans rfl
            have hcz19_2 : wr.cell? ⟨gb193, 2, none⟩ = some (.string a0_2) := (zD BK193.out 2).trans rfl
            have hcz19_3 : wr.cell? ⟨gb193, 3, none⟩ = some (.slice A0_3 l0_3.length c0_3) := (zD BK193.out 3).trans rfl
            have hfz19_0 := zH BK193.out 0
            have hfz19_1 := zH BK193.out 1
            have hfz19_2 := zH BK193.out 2
            have hfz19_3 := zH BK193.out 3
            have p199 : 0 ≤ ((ji15) : Int) := of_decide_eq_true (by first | (with_reducible assumption) | assumption)
            have q199 : (ji15) < (l0_0.length : Int) := of_decide_eq_true (by first | (with_reducible assumption) | assumption)
            obtain ⟨ad199, e199, hx199_0⟩ := Kd.at_string HR0_0.out (ji15) p199 q199
            obtain rfl : ad198 = ad199 := (by injection e199)
            replace hx199_0 := (HB.out.cell (World.block_lt_of_cell? w _ hx199_0)).trans hx199_0
            replace p199 := eq_true p199
            replace q199 := eq_true q199
            go_wp2
            go_roundg k1
            case measure => have := HK1.out; omega
            case rel => exact ⟨(wrap64 (x29_1 + 1)), (by first | rfl | (simp; done) | (simp [*]; done)), H', ⟨by have := HK1.out; omega⟩, ⟨by (with_reducible repeat (first | refine zG ?_ _ | refine zI ?_ | refine zF ?_ _)); exact BK193.out⟩, ⟨by repeat (first | (with_reducible first | exact HB.out | apply zC | apply zA | apply zB | refine zE ?_ GE193.out) | exact HB.out)⟩⟩
           ·
            rw [if_neg c18] at H
            have c18b0 : (Op.bytesLess ((rdOf ByteArray.empty l0_0 (ji15)).toList) ((rdOf ByteArray.empty l0_0 x29_1).toList)) = false := by simpa using c18
            clear c18
            obtain rfl := Option.some.inj H
            have p198 : 0 ≤ (x29_1 : Int) := of_decide_eq_true (by first | (with_reducible assumption) | assumption)
            have q198 : x29_1 < (l0_0.length : Int) := of_decide_eq_true (by first | (with_reducible assumption) | assumption)
            obtain ⟨ad198, e198, hx198_0⟩ := Kd.at_string HR0_0.out x29_1 p198 q198
            cases e198
            replace hx198_0 := (HB.out.cell (World.block_lt_of_cell? w _ hx198_0)).trans hx198_0
            replace p198 := eq_true p198
            replace q198 := eq_true q198
            have hcz20_0 : wr.cell? ⟨gb193, 0, none⟩ = some (.slice (some ad198) l0_0.length c0_0) := (zD BK193.out 0).trans rfl
            have hcz20_1 : wr.cell? ⟨gb193, 1, none⟩ = some (.string a0_1) := (zD BK193.out 1).trans rfl
            have hcz20_2 : wr.cell? ⟨gb193, 2, none⟩ = some (.string a0_2) := (zD BK193.out 2).trans rfl
            have hcz20_3 : wr.cell? ⟨gb193, 3, none⟩ = some (.slice A0_3 l0_3.length c0_3) := (zD BK193.out 3).trans rfl
            have hfz20_0 := zH BK193.out 0
            have hfz20_1 := zH BK193.out 1
            have hfz20_2 := zH BK193.out 2
            have hfz20_3 := zH BK193.out 3
            have p199 : 0 ≤ ((ji15) : Int) := of_decide_eq_true (by first | (with_reducible assumption) | assumption)
            have q199 : (ji15) < (l0_0.length : Int) := of_decide_eq_true (by first | (with_reducible assumption) | assumption)
            obtain ⟨ad199, e199, hx199_0⟩ := Kd.at_string HR0_0.out (ji15) p199 q199
            obtain rfl : ad198 = ad199 := (by injection e199)
            replace hx199_0 := (HB.out.cell (World.block_lt_of_cell? w _ hx199_0)).trans hx199_0
            replace p199 := eq_true p199
            replace q199 := eq_true q199
            go_wp2
            go_ret
            exact ⟨by first | rfl | (simp [zO, zN] <;> rfl) | (simp only [← hji15]; first | rfl | (simp [zO, zN] <;> rfl)) | (simp [*, zO, zN] <;> rfl), by repeat (first | (with_reducible first | exact HB.out | apply zC | apply zA | apply zB | refine zE ?_ GE193.out) | exact HB.out)⟩
          ·
           rw [if_neg c17] at H
           exact absurd H (by simp)
         ·
          rw [if_neg c16] at H
          exact absurd H (by simp)
        ·
         rw [if_neg c14] at H
         have c14b0 : decide (0 < x29_1) = false := decide_eq_false c14
         clear c14
         have H' := Aside0.mk H
         clear H
         have p198 : 0 ≤ (x29_1 : Int) := of_decide_eq_true (by first | (with_reducible assumption) | assumption)
         have q198 : x29_1 < (l0_0.length : Int) := of_decide_eq_true (by first | (with_reducible assumption) | assumption)
         obtain ⟨ad198, e198, hx198_0⟩ := Kd.at_string HR0_0.out x29_1 p198 q198
         cases e198
         replace hx198_0 := (HB.out.cell (World.block_lt_of_cell? w _ hx198_0)).trans hx198_0
         replace p198 := eq_true p198
         replace q198 := eq_true q198
         go_wp2
         go_roundg k1
         case measure => have := HK1.out; omega
         case rel => exact ⟨(wrap64 (x29_1 + 1)), (by first | rfl | (simp; done) | (simp [*]; done)), H', ⟨by have := HK1.out; omega⟩, ⟨by (with_reducible repeat (first | refine zG ?_ _ | refine zI ?_ | refine zF ?_ _)); exact BK193.out⟩, ⟨by repeat (first | (with_reducible first | exact HB.out | apply zC | apply zA | apply zB | refine zE ?_ GE193.out) | exact HB.out)⟩⟩
       ·
        rw [if_neg c13] at H
        have c13b0 : (((rdOf ByteArray.empty l0_0 x29_1).size : Int) == 32) = false := beq_eq_false_iff_ne.mpr c13
        have c13b1 : (((rdOf ByteArray.empty l0_0 x29_1).size : Int) != 32) = true := bne_iff_ne.mpr c13
        obtain rfl := Option.some.inj H
        have p198 : 0 ≤ (x29_1 : Int) := of_decide_eq_true (by first | (with_reducible assumption) | assumption)
        have q198 : x29_1 < (l0_0.length : Int) := of_decide_eq_true (by first | (with_reducible assumption) | assumption)
        obtain ⟨ad198, e198, hx198_0⟩ := Kd.at_string HR0_0.out x29_1 p198 q198
        cases e198
        replace hx198_0 := (HB.out.cell (World.block_lt_of_cell? w _ hx198_0)).trans hx198_0
        replace p198 := eq_true p198
        replace q198 := eq_true q198
        go_wp2
        go_ret
        exact ⟨by first | rfl | (simp [zO, zN] <;> rfl) | (simp [*, zO, zN] <;> rfl), by repeat (first | (with_reducible first | exact HB.out | apply zC | apply zA | apply zB | refine zE ?_ GE193.out) | exact HB.out)⟩
      ·
       rw [if_neg c12] at H
       exact absurd H (by simp)
     ·
      rw [if_neg c11] at H
      exact absurd H (by simp)
    ·
     rw [if_neg c10] at H
     have c10b0 : decide (x29_1 < (l0_0.length : Int)) = false := decide_eq_false c10
     clear c10
     have H' := Aside0.mk H
     clear H
     have hcz21_0 : wr.cell? ⟨gb193, 0, none⟩ = some (.slice A0_0 l0_0.length c0_0) := (zD BK193.out 0).trans rfl
     have hcz21_1 : wr.cell? ⟨gb193, 1, none⟩ = some (.string a0_1) := (zD BK193.out 1).trans rfl
     have hcz21_2 : wr.cell? ⟨gb193, 2, none⟩ = some (.string a0_2) := (zD BK193.out 2).trans rfl
     have hcz21_3 : wr.cell? ⟨gb193, 3, none⟩ = some (.slice A0_3 l0_3.length c0_3) := (zD BK193.out 3).trans rfl
     have hfz21_0 := zH BK193.out 0
     have hfz21_1 := zH BK193.out 1
     have hfz21_2 := zH BK193.out 2
     have hfz21_3 := zH BK193.out 3
     go_wp2
     go_loopg [55] k1 (fun kq v55 w' => ∃ (x55_2 : Int), v55 = .int .i64 x55_2 ∧ Aside0 (patch_Right.l1 kq l0_3 (l0_3.length : Int) x55_2 l0_0 a0_1 a0_2 l0_3 = some r) ∧ Aside0 (kq ≤ k1) ∧ Aside0 (w'.heap[gb193]? = some (.cells #[(.slice A0_0 l0_0.length c0_0), .string a0_1, .string a0_2, (.slice A0_3 l0_3.length c0_3)] 25 (0, 0))) ∧ Aside0 (Below w.heap.size w w'))
     case atStart => exact ⟨(0), (by first | rfl | (simp; done) | (simp [*]; done)), H', ⟨Nat.le_refl _⟩, ⟨by (with_reducible repeat (first | refine zG ?_ _ | refine zI ?_ | refine zF ?_ _)); exact BK193.out⟩, ⟨by repeat (first | (with_reducible first | exact HB.out | apply zC | apply zA | apply zB | refine zE ?_ GE193.out) | exact HB.out)⟩⟩
     case round =>
      clear H'
      try clear c1
      try clear p1
      try clear q1
      try clear hx1
      try clear p2
      try clear c3
      try clear p6
      try clear c10
      try clear c10b0
      try clear c11
      try clear c11b0
      try clear c12
      try clear c12b0
      try clear c13
      try clear c13b0
      try clear c13b1
      try clear c14
      try clear c14b0
      try clear c16
      try clear c16b0
      try clear c17
      try clear c17b0
      try clear c18
      try clear c18b0
      try clear c19
      try clear p19
      try clear q19
      try clear hx19
      try clear hcz19_0
      try clear hcz19_1
      try clear hcz19_2
      try clear hcz19_3
      try clear hcz20_0
      try clear hcz20_1
      try clear hcz20_2
      try clear hcz20_3
      try clear hcz21_0
      try clear hcz21_1
      try clear hcz21_2
      try clear hcz21_3
      try clear hcz5_0
      try clear hcz5_1
      try clear hcz5_2
      try clear hcz5_3
      try clear hcz9_0
      try clear hcz9_1
      try clear hcz9_2
      try clear hcz9_3
      try clear hfz19_0
      try clear hfz19_1
      try clear hfz19_2
      try clear hfz19_3
      try clear hfz20_0
      try clear hfz20_1
      try clear hfz20_2
      try clear hfz20_3
      try clear hfz21_0
      try clear hfz21_1
      try clear hfz21_2
      try clear hfz21_3
      try clear hfz5_0
      try clear hfz5_1
      try clear hfz5_2
      try clear hfz5_3
      try clear hfz9_0
      try clear hfz9_1
      try clear hfz9_2
      try clear hfz9_3
      try clear hx198_0
      try clear hx199_0
      try clear p198
      try clear p199
      try clear p2
      try clear q198
      try clear q199
      obtain ⟨x55_2, rfl, HA, HK2, BK193, HB⟩ := hrel
      cases gk with
      | zero => exact absurd HA.out (by simp [patch_Right.l1])
      | succ k2 =>
       have H := HA.out
       clear HA
       simp only [patch_Right.l1] at H
       by_cases c22 : x55_2 < (l0_3.length : Int)
       ·
        rw [if_pos c22] at H
        by_cases cz_ : 0 ≤ x55_2
        · exact absurd c22 (by have := HCS.out; omega)
        ·
         rw [if_neg cz_] at H
         exact absurd H (by simp)
       ·
        rw [if_neg c22] at H
        have c22b0 : decide (x55_2 < (l0_3.length : Int)) = false := decide_eq_false c22
        clear c22
        replace H := Option.bind_eq_some_iff.mp H
        obtain ⟨t200, A1140, H⟩ := H
        replace H : (some (decide ((t200.length : Int) ≤ 131072))) = some r := H
        have A114 := Aside0.mk A1140
        clear A1140
        obtain rfl := Option.some.inj H
        have hcz115_0 : wr.cell? ⟨gb193, 0, none⟩ = some (.slice A0_0 l0_0.length c0_0) := (zD BK193.out 0).trans rfl
        have hcz115_1 : wr.cell? ⟨gb193, 1, none⟩ = some (.string a0_1) := (zD BK193.out 1).trans rfl
        have hcz115_2 : wr.cell? ⟨gb193, 2, none⟩ = some (.string a0_2) := (zD BK193.out 2).trans rfl
        have hcz115_3 : wr.cell? ⟨gb193, 3, none⟩ = some (.slice A0_3 l0_3.length c0_3) := (zD BK193.out 3).trans rfl
        have hfz115_0 := zH BK193.out 0
        have hfz115_1 := zH BK193.out 1
        have hfz115_2 := zH BK193.out 2
        have hfz115_3 := zH BK193.out 3
        go_wp2_with (first | ((with_reducible refine gate_callee (f := 23) rfl ?_); refine goesL_ (some 95) rfl rfl Tryd.func23 (by kernel_rfl) rfl #[.agg #[.slice A0_0 l0_0.length c0_0, .string a0_1, .string a0_2, .slice A0_3 l0_3.length c0_3]] rfl (by (try simp only [List.map_toArray, List.map_cons, List.map_nil]); first | done | rfl | (simp only [List.length_drop, List.length_take]; rfl)) ?_; (with_reducible refine (patch_form.calls k2 _ _ l0_0 a0_1 a0_2 _ _ l0_3 t200 _ ?side1 ?side2 ?side3 ?side4 A114.out).mono ?_); (case side1 => repeat (first | exact (Kd.C_below HR0_0.out HB.out) | (with_reducible refine Kd.C_alloc ?_ _) | (with_reducible refine Kd.C_drewN ?_ _) | (with_reducible refine Kd.C_drew ?_))); (case side2 => exact HC0_0.out); (case side3 => repeat (first | exact (Kd.C_below HR0_3.out HB.out) | (with_reducible refine Kd.C_alloc ?_ _) | (with_reducible refine Kd.C_drewN ?_ _) | (with_reducible refine Kd.C_drew ?_))); (case side4 => exact HC0_3.out); rintro e w116 ⟨v201, rfl, ho0, hb⟩; refine ⟨_, rfl, ?_⟩; have n0_ := Aside0.mk (Kd.R_lower ho0 (zK (by repeat (first | (with_reducible first | exact HB.out | apply zC | apply zA | apply zB | refine zE ?_ GE193.out) | exact HB.out)))); have n1_ := Aside0.mk (zM (g := gb193) (o := .cells #[.slice A0_0 l0_0.length c0_0, .string a0_1, .string a0_2, .slice A0_3 l0_3.length c0_3] 25 (0, 0)) (by (with_reducible repeat (first | refine zG ?_ _ | refine zI ?_ | refine zF ?_ _)); exact BK193.out) hb); have n2_ := Aside0.mk (zL (by repeat (first | (with_reducible first | exact HB.out | apply zC | apply zA | apply zB | refine zE ?_ GE193.out) | exact HB.out)) hb); clear BK193; clear HB; have HO202 := n0_; have BK193 := n1_; have HB := n2_; clear n0_ n1_ n2_; (try clear hb); (try clear hb2); (try clear hk); (try clear hi); (try clear ho0); obtain ⟨Ao117, co117, eo117⟩ := Kd.R_slice HO202.out; subst eo117))
        go_ret
        exact ⟨by first | rfl | (simp [zO, zN] <;> rfl) | (simp [*, zO, zN] <;> rfl), by repeat (first | (with_reducible first | exact HB.out | apply zC | apply zA | apply zB | refine zE ?_ GE193.out) | exact HB.out)⟩
 ·
  replace c3 := Bool.eq_false_iff.mpr c3
  subst c3
  have H1 : (some false) = some r := by rw [if_neg (show ¬ (false = true) by decide)] at H; exact H
  clear H
  have H := H1
  clear H1
  obtain rfl := Option.some.inj H
  go_enter Tryd.func19, Tryd.ntmps19
  go_wp2_with (first | ((with_reducible refine gate_dst (N := 1) rfl ?_); (try (refine gate_guard (by rfl) ?_; dsimp only)); refine box_event ?hg (N := 1) ?hd (cs := #[.slice A0_0 l0_0.length c0_0, .string a0_1, .string a0_2, .slice A0_3 l0_3.length c0_3]) (t := 25) ?hr ?_; (case hd => rfl); (case hg => rfl); (case hr => first | (go_simp; done) | (go_simp; rfl)); intro gb193 hg w118 hbox hb; have n0_ := Aside0.mk (zL (by repeat (first | (with_reducible first | exact HB.out | apply zC | apply zA | apply zB) | exact HB.out)) hb); have n1_ := Aside0.mk (hbox); have n2_ := Aside0.mk ((by rw [hg]; exact (zK (by repeat (first | (with_reducible first | exact HB.out | apply zC | apply zA | apply zB) | exact HB.out))) : w.heap.size ≤ gb193)); have n3_ := Aside0.mk ((by rw [hg]; exact (zK (by repeat (first | (with_reducible first | exact HB.out | apply zC | apply zA | apply zB) | exact HB.out))) : w.heap.size ≤ gb193)); clear HB; have HB := n0_; have BK193 := n1_; have GW193 := n2_; have GE193 := n3_; clear n0_ n1_ n2_ n3_; clear hb hbox hg; have hcz119_0 : w118.cell? ⟨gb193, 0, none⟩ = some (.slice A0_0 l0_0.length c0_0) := (zD BK193.out 0).trans rfl; have hcz119_1 : w118.cell? ⟨gb193, 1, none⟩ = some (.string a0_1) := (zD BK193.out 1).trans rfl; have hcz119_2 : w118.cell? ⟨gb193, 2, none⟩ = some (.string a0_2) := (zD BK193.out 2).trans rfl; have hcz119_3 : w118.cell? ⟨gb193, 3, none⟩ = some (.slice A0_3 l0_3.length c0_3) := (zD BK193.out 3).trans rfl; have hfz119_0 := zH BK193.out 0; have hfz119_1 := zH BK193.out 1; have hfz119_2 := zH BK193.out 2; have hfz119_3 := zH BK193.out 3) | ((with_reducible refine gate_dst (N := 23) rfl ?_); (try (refine gate_guard (by rfl) ?_; dsimp only)); refine Kd.R_lit Kd.bool _ 4 ?hg (N := 23) ?hd (xs := ([decide ((l0_0.length : Int) ≤ 16), decide ((a0_1.size : Int) ≤ 100), decide ((a0_2.size : Int) ≤ 1000), decide ((l0_3.length : Int) ≤ 100)] : List Bool)) (inner := [.bool (decide ((l0_0.length : Int) ≤ 16)), .bool (decide ((a0_1.size : Int) ≤ 100)), .bool (decide ((a0_2.size : Int) ≤ 1000)), .bool (decide ((l0_3.length : Int) ≤ 100))]) (ok := fun _ => True) (okp := fun _ => True) ?hr ?hp (fun _ hk => hk) trivial (Below.refl _ _) (Nat.le_refl _) (by simp) ?_; (case hd => rfl); (case hg => rfl); (case hr => first | (go_simp; done) | (go_simp; rfl)); (case hp => exact (Reps.one (show Kd.M Kd.bool _ _ _ (decide ((l0_0.length : Int) ≤ 16)) [.bool (decide ((l0_0.length : Int) ≤ 16))] from rfl) (Reps.one (show Kd.M Kd.bool _ _ _ (decide ((a0_1.size : Int) ≤ 100)) [.bool (decide ((a0_1.size : Int) ≤ 100))] from rfl) (Reps.one (show Kd.M Kd.bool _ _ _ (decide ((a0_2.size : Int) ≤ 1000)) [.bool (decide ((a0_2.size : Int) ≤ 1000))] from rfl) (Reps.one (show Kd.M Kd.bool _ _ _ (decide ((l0_3.length : Int) ≤ 100)) [.bool (decide ((l0_3.length : Int) ≤ 100))] from rfl) (Reps.none _ _)))))); intro v195 w120 ho121 hb hg_ hnew_; clear hg_ hnew_; (first | rw [← Ny194.out] at ho121 | (simp only [Int.reduceToNat] at ho121; rw [← Ny194.out] at ho121)); have n0_ := Aside0.mk (Kd.R_lower ho121 (zK (by repeat (first | (with_reducible first | exact HB.out | apply zC | apply zA | apply zB | refine zE ?_ GE193.out) | exact HB.out)))); have n1_ := Aside0.mk (zM (g := gb193) (o := .cells #[.slice A0_0 l0_0.length c0_0, .string a0_1, .string a0_2, .slice A0_3 l0_3.length c0_3] 25 (0, 0)) (by (with_reducible repeat (first | refine zG ?_ _ | refine zI ?_ | refine zF ?_ _)); exact BK193.out) hb); have n2_ := Aside0.mk (zL (by repeat (first | (with_reducible first | exact HB.out | apply zC | apply zA | apply zB | refine zE ?_ GE193.out) | exact HB.out)) hb); clear BK193; clear HB; have HO196 := n0_; have BK193 := n1_; have HB := n2_; clear n0_ n1_ n2_; clear hb ho121; obtain ⟨Ao122, co122, eo122⟩ := Kd.R_slice HO196.out; subst eo122) | ((with_reducible refine gate_callee (f := 34) rfl ?_); refine goesL_ (some 24) rfl rfl Tryd.func34 (by kernel_rfl) rfl #[.slice Ao122 y194.length co122] rfl (by (try simp only [List.map_toArray, List.map_cons, List.map_nil]); first | done | rfl | (simp only [List.length_drop, List.length_take]; rfl)) ?_; (with_reducible refine (patch_all.calls k _ _ y194 false _ ?side1 ?side2 A2.out).mono ?_); (case side1 => repeat (first | exact (Kd.R_reads' HO196.out).2.2 | (with_reducible refine Kd.C_alloc ?_ _) | (with_reducible refine Kd.C_drewN ?_ _) | (with_reducible refine Kd.C_drew ?_))); (case side2 => exact (Kd.R_reads' HO196.out).2.1); rintro e w' ⟨rfl, ⟨nd, rfl⟩⟩; refine ⟨_, rfl, ?_⟩))
  go_ret
  exact ⟨by first | rfl | (simp [zO, zN] <;> rfl) | (simp [*, zO, zN] <;> rfl), by repeat (first | (with_reducible first | exact HB.out | apply zC | apply zA | apply zB | refine zE ?_ GE193.out) | exact HB.out)⟩
end Go.Proofs.YtembjjombhfglaaDoor.G
