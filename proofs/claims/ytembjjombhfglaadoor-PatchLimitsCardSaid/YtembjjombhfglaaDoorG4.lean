import Derived.Test.YtembjjombhfglaaDoorG0
import Derived.Test.YtembjjombhfglaaDoorG3
namespace Go.Proofs.YtembjjombhfglaaDoor.G
open Go.RowKit Go.Proofs.YtembjjombhfglaaDoorW.PrintWords Go.Proofs.YtembjjombhfglaaDoorW.PrintLast Go.Proofs.YtembjjombhfglaaDoorW.PrintMore
attribute [local go_sem] max2_int min2_int max_two min_two max_three min_three max_four min_four
set_option linter.unusedVariables false
set_option linter.unusedSimpArgs false
mutual
def patch_form.l0 : Nat → List Int → List ByteArray → Int → Int → List ByteArray → ByteArray → ByteArray → List (S48) → Option (List Int)
 | 0, _, _, _, _, _, _, _, _ => none
 | k + 1, x3, x15, x16, x17, x117000, x117001, x117002, x117003 => if x17 < x16 then (if 0 ≤ x17 then (if x17 < (x15.length : Int) then ((conv_b (rdOf ByteArray.empty x15 x17)).bind fun t121 => ((wire_Text.f k x3 t121).bind fun t124 => (patch_form.l0 k t124 x15 x16 (wrap64 (x17 + 1)) x117000 x117001 x117002 x117003))) else (none)) else (none)) else ((conv_b x117001).bind fun t127 => ((wire_Text.f k x3 t127).bind fun t130 => ((conv_b x117002).bind fun t133 => ((wire_Text.f k t130 t133).bind fun t136 => ((wire_Num.f k t136 (IntKind.u64.wrap ((x117003.length : Int)))).bind fun t139 => (patch_form.l1 k t139 x117003 (x117003.length : Int) 0))))))
def patch_form.l1 : Nat → List Int → List (S48) → Int → Int → Option (List Int)
 | 0, _, _, _, _ => none
 | k + 1, x3, x42, x43, x44 => if x44 < x43 then (if 0 ≤ x44 then (if x44 < (x42.length : Int) then (if (zJ x42 x44).f1 = true then (patch_form.j2 k x3 1 x42 x43 x44 ((zJ x42 x44).f0) ((zJ x42 x44).f1) ((zJ x42 x44).f2)) else (patch_form.j2 k x3 0 x42 x43 x44 ((zJ x42 x44).f0) ((zJ x42 x44).f1) ((zJ x42 x44).f2))) else (none)) else (none)) else (some x3)
def patch_form.j2 : Nat → List Int → Int → List (S48) → Int → Int → ByteArray → Bool → ByteArray → Option (List Int)
 | 0, _, _, _, _, _, _, _, _ => none
 | k + 1, x3, x8, x42, x43, x44, x144000, x144001, x144002 => (conv_b x144000).bind fun t144 => ((wire_Text.f k x3 t144).bind fun t147 => ((wire_Num.f k t147 x8).bind fun t150 => ((conv_b x144002).bind fun t153 => ((wire_Text.f k t150 t153).bind fun t156 => (patch_form.l1 k t156 x42 x43 (wrap64 (x44 + 1)))))))
end
def patch_form.f (k : Nat) (l0_0 : List ByteArray) (a0_1 : ByteArray) (a0_2 : ByteArray) (l0_3 : List (S48)) : Option (List Int) := if l0_3.length = 0 then ((wire_Num.f k ([] : List Int) (IntKind.u64.wrap ((l0_0.length : Int)))).bind fun t117 => (patch_form.l0 k t117 l0_0 (l0_0.length : Int) 0 l0_0 a0_1 a0_2 l0_3)) else none
def patch_form.T7 : Bool × List (List Nat × List Nat) := (true, [([], []), ([], []), ([1], [1]), ([2], [2]), ([0, 3], [0, 3]), ([], []), ([5], [5]), ([6], [6]), ([4, 7, 4], [4, 7]), ([8, 8, 0, 1, 2, 3, 4, 5, 6, 7, 8], [0, 8])])
def patch_form.B7 : List Nat := [0, 0, 2, 6, 15, 0, 32, 96, 255, 511]
theorem patch_form.tab7 : rtab .any (opsOf Tryd.f23 7) = patch_form.T7 := by kernel_rfl
theorem patch_form.bits7 : waitsOk patch_form.T7.2 patch_form.B7 = true := by kernel_rfl
set_option maxHeartbeats 8000000 in
set_option maxRecDepth 100000 in
theorem patch_form.calls (k : Nat) (A0_0 : Option Addr) (c0_0 : Nat) (l0_0 : List ByteArray) (a0_1 : ByteArray) (a0_2 : ByteArray) (A0_3 : Option Addr) (c0_3 : Nat) (l0_3 : List (S48)) (r : List Int) (w : World) (hr0_0 : Kd.C Kd.string w A0_0 l0_0.length l0_0) (hc0_0 : l0_0.length ≤ c0_0) (hr0_3 : Kd.C k48 w A0_3 l0_3.length l0_3) (hc0_3 : l0_3.length ≤ c0_3) (h : patch_form.f k l0_0 a0_1 a0_2 l0_3 = some r) :
  Calls Tryd.prog 23 #[.agg #[.slice A0_0 l0_0.length c0_0, .string a0_1, .string a0_2, .slice A0_3 l0_3.length c0_3]] w fun e w' => ∃ v0_ : Value, e = .returned (v0_) ∧ Kd.R (Kd.int .u8) 5 w' w.heap.size (fun _ => True) v0_ r ∧ Below w.heap.size w w' := by
 have hu25 := Tryd.underlying25
 have hu48 := Tryd.underlying48
 have HR0_0 := Aside0.mk hr0_0
 have HC0_0 := Aside0.mk hc0_0
 clear hr0_0 hc0_0
 have HR0_3 := Aside0.mk hr0_3
 have HC0_3 := Aside0.mk hc0_3
 clear hr0_3 hc0_3
 have HB := Aside0.mk (Below.refl w.heap.size w)
 have HCS : Aside0 (l0_3.length = 0) := ⟨by unfold patch_form.f at h; by_cases h0_ : l0_3.length = 0; exact h0_; rw [if_neg h0_] at h; exact absurd h (by simp)⟩
 have H : ((wire_Num.f k ([] : List Int) (IntKind.u64.wrap ((l0_0.length : Int)))).bind fun t117 => (patch_form.l0 k t117 l0_0 (l0_0.length : Int) 0 l0_0 a0_1 a0_2 l0_3)) = some r := by unfold patch_form.f at h; rw [if_pos HCS.out] at h; exact h
 clear h
 replace H := Option.bind_eq_some_iff.mp H
 obtain ⟨t117, A20, H⟩ := H
 replace H : (patch_form.l0 k t117 l0_0 (l0_0.length : Int) 0 l0_0 a0_1 a0_2 l0_3) = some r := H
 have A2 := Aside0.mk A20
 clear A20
 have H' := Aside0.mk H
 clear H
 go_enter Tryd.func23, Tryd.ntmps23
 go_wp2_with (first | ((with_reducible refine gate_dst (N := 1) rfl ?_); refine box_event ?hg (N := 1) ?hd (cs := #[.slice A0_0 l0_0.length c0_0, .string a0_1, .string a0_2, .slice A0_3 l0_3.length c0_3]) (t := 25) ?hr ?_; (case hd => rfl); (case hg => rfl); (case hr => first | (go_simp; done) | (go_simp; rfl)); intro gb116 hg w3 hbox hb; have n0_ := Aside0.mk (zL (by repeat (first | (with_reducible first | exact HB.out | apply zC | apply zA | apply zB) | exact HB.out)) hb); have n1_ := Aside0.mk (hbox); have n2_ := Aside0.mk ((by rw [hg]; exact (zK (by repeat (first | (with_reducible first | exact HB.out | apply zC | apply zA | apply zB) | exact HB.out))) : w.heap.size ≤ gb116)); have n3_ := Aside0.mk ((by rw [hg]; exact (zK (by repeat (first | (with_reducible first | exact HB.out | apply zC | apply zA | apply zB) | exact HB.out))) : w.heap.size ≤ gb116)); clear HB; have HB := n0_; have BK116 := n1_; have GW116 := n2_; have GE116 := n3_; clear n0_ n1_ n2_ n3_; clear hb hbox hg; have hcz4_0 : w3.cell? ⟨gb116, 0, none⟩ = some (.slice A0_0 l0_0.length c0_0) := (zD BK116.out 0).trans rfl; have hcz4_1 : w3.cell? ⟨gb116, 1, none⟩ = some (.string a0_1) := (zD BK116.out 1).trans rfl; have hcz4_2 : w3.cell? ⟨gb116, 2, none⟩ = some (.string a0_2) := (zD BK116.out 2).trans rfl; have hcz4_3 : w3.cell? ⟨gb116, 3, none⟩ = some (.slice A0_3 l0_3.length c0_3) := (zD BK116.out 3).trans rfl; have hfz4_0 := zH BK116.out 0; have hfz4_1 := zH BK116.out 1; have hfz4_2 := zH BK116.out 2; have hfz4_3 := zH BK116.out 3) | ((with_reducible refine gate_callee (f := 41) rfl ?_); refine goesL_ (some 13) rfl rfl Tryd.func41 (by kernel_rfl) rfl #[.slice none 0 0, .int .u64 (IntKind.u64.wrap ((l0_0.length : Int)))] rfl (by (try simp only [List.map_toArray, List.map_cons, List.map_nil]); first | done | rfl | (simp only [List.length_drop, List.length_take]; rfl)) ?_; (refine (wire_Num.calls k _ _ ([] : List Int) (IntKind.u64.wrap ((l0_0.length : Int))) t117 _ ?side1 ?side2 A2.out).mono ?_); (case side1 => exact Kd.C_nil _ _); (case side2 => exact Nat.le_refl _); rintro e w5 ⟨v118, rfl, ho0, hb⟩; refine ⟨_, rfl, ?_⟩; have n0_ := Aside0.mk (Kd.R_lower ho0 (zK (by repeat (first | (with_reducible first | exact HB.out | apply zC | apply zA | apply zB | refine zE ?_ GE116.out) | exact HB.out)))); have n1_ := Aside0.mk (zM (g := gb116) (o := .cells #[.slice A0_0 l0_0.length c0_0, .string a0_1, .string a0_2, .slice A0_3 l0_3.length c0_3] 25 (0, 0)) (by (with_reducible repeat (first | refine zG ?_ _ | refine zI ?_ | refine zF ?_ _)); exact BK116.out) hb); have n2_ := Aside0.mk (zL (by repeat (first | (with_reducible first | exact HB.out | apply zC | apply zA | apply zB | refine zE ?_ GE116.out) | exact HB.out)) hb); clear BK116; clear HB; have HO119 := n0_; have BK116 := n1_; have HB := n2_; clear n0_ n1_ n2_; (try clear hb); (try clear hb2); (try clear hk); (try clear hi); (try clear ho0); have hcz6_0 : w5.cell? ⟨gb116, 0, none⟩ = some (.slice A0_0 l0_0.length c0_0) := (zD BK116.out 0).trans rfl; have hcz6_1 : w5.cell? ⟨gb116, 1, none⟩ = some (.string a0_1) := (zD BK116.out 1).trans rfl; have hcz6_2 : w5.cell? ⟨gb116, 2, none⟩ = some (.string a0_2) := (zD BK116.out 2).trans rfl; have hcz6_3 : w5.cell? ⟨gb116, 3, none⟩ = some (.slice A0_3 l0_3.length c0_3) := (zD BK116.out 3).trans rfl; have hfz6_0 := zH BK116.out 0; have hfz6_1 := zH BK116.out 1; have hfz6_2 := zH BK116.out 2; have hfz6_3 := zH BK116.out 3))
 go_loopg [3, 17] k (fun kq v3 v17 w' => ∃ (x3_1 : List Int) (x17_1 : Int), v17 = .int .i64 x17_1 ∧ Aside0 (patch_form.l0 kq x3_1 l0_0 (l0_0.length : Int) x17_1 l0_0 a0_1 a0_2 l0_3 = some r) ∧ Aside0 (kq ≤ k) ∧ Aside0 (Kd.R (Kd.int .u8) 5 w' w.heap.size (fun _ => True) v3 x3_1) ∧ Aside0 (w'.heap[gb116]? = some (.cells #[(.slice A0_0 l0_0.length c0_0), .string a0_1, .string a0_2, (.slice A0_3 l0_3.length c0_3)] 25 (0, 0))) ∧ Aside0 (Below w.heap.size w w'))
 case atStart => exact ⟨(t117), (0), (by first | rfl | (simp; done) | (simp [*]; done)), H', ⟨Nat.le_refl _⟩, ⟨by (with_reducible repeat (first | apply Kd.R_alloc | apply Kd.R_drewN | apply Kd.R_drew)); exact HO119.out⟩, ⟨by (with_reducible repeat (first | refine zG ?_ _ | refine zI ?_ | refine zF ?_ _)); exact BK116.out⟩, ⟨by repeat (first | (with_reducible first | exact HB.out | apply zC | apply zA | apply zB | refine zE ?_ GE116.out) | exact HB.out)⟩⟩
 case round =>
  clear H'
  try clear c2
  try clear p2
  try clear c4
  try clear hcz4_0
  try clear hcz4_1
  try clear hcz4_2
  try clear hcz4_3
  try clear hcz6_0
  try clear hcz6_1
  try clear hcz6_2
  try clear hcz6_3
  try clear hfz4_0
  try clear hfz4_1
  try clear hfz4_2
  try clear hfz4_3
  try clear hfz6_0
  try clear hfz6_1
  try clear hfz6_2
  try clear hfz6_3
  obtain ⟨x3_1, x17_1, rfl, HA, HK1, HO_3, BK116, HB⟩ := hrel
  cases gk with
  | zero => exact absurd HA.out (by simp [patch_form.l0])
  | succ k1 =>
   have H := HA.out
   clear HA
   simp only [patch_form.l0] at H
   by_cases c7 : x17_1 < (l0_0.length : Int)
   ·
    rw [if_pos c7] at H
    have c7b0 : decide (x17_1 < (l0_0.length : Int)) = true := decide_eq_true c7
    clear c7
    by_cases c8 : 0 ≤ x17_1
    ·
     rw [if_pos c8] at H
     have c8b0 : decide (0 ≤ x17_1) = true := decide_eq_true c8
     clear c8
     by_cases c9 : x17_1 < (l0_0.length : Int)
     ·
      rw [if_pos c9] at H
      have c9b0 : decide (x17_1 < (l0_0.length : Int)) = true := decide_eq_true c9
      clear c9
      replace H := Option.bind_eq_some_iff.mp H
      obtain ⟨t121, A100, H⟩ := H
      replace H : ((wire_Text.f k1 x3_1 t121).bind fun t124 => (patch_form.l0 k1 t124 l0_0 (l0_0.length : Int) (wrap64 (x17_1 + 1)) l0_0 a0_1 a0_2 l0_3)) = some r := H
      have A10 := Aside0.mk A100
      clear A100
      replace H := Option.bind_eq_some_iff.mp H
      obtain ⟨t124, A110, H⟩ := H
      replace H : (patch_form.l0 k1 t124 l0_0 (l0_0.length : Int) (wrap64 (x17_1 + 1)) l0_0 a0_1 a0_2 l0_3) = some r := H
      have A11 := Aside0.mk A110
      clear A110
      have H' := Aside0.mk H
      clear H
      have p120 : 0 ≤ (x17_1 : Int) := of_decide_eq_true (by first | (with_reducible assumption) | assumption)
      have q120 : x17_1 < (l0_0.length : Int) := of_decide_eq_true (by first | (with_reducible assumption) | assumption)
      obtain ⟨ad120, e120, hx120_0⟩ := Kd.at_string HR0_0.out x17_1 p120 q120
      cases e120
      replace hx120_0 := (HB.out.cell (World.block_lt_of_cell? w _ hx120_0)).trans hx120_0
      replace p120 := eq_true p120
      replace q120 := eq_true q120
      go_wp2_with (first | ((with_reducible refine gate_conv (src := 35) (dst := 26) rfl ?_); refine conv_goesL (some 23) rfl rfl rfl (rdOf ByteArray.empty l0_0 x17_1) (by first | rfl | (simp only [Act.eval]; rfl)) Tryd.underlying35 Tryd.underlying26 Tryd.underlying5 A10.out ?_; intro v122 w12 ho0 hb; have n0_ := Aside0.mk (Kd.R_below (by (with_reducible repeat (first | apply Kd.R_alloc | apply Kd.R_drewN | apply Kd.R_drew)); exact HO_3.out) hb); have n1_ := Aside0.mk (Kd.V_lower (Kd.V_mono (ok' := fun k_ => some k_ ≠ (u3 : Value).ownBlock ∧ k_ ≠ gb116) ho0 (fun k_ hk_ => ⟨(Kd.fresh' (Kd.R_lt (by (with_reducible repeat (first | apply Kd.R_alloc | apply Kd.R_drewN | apply Kd.R_drew)); exact HO_3.out)) k_ hk_), (Kd.freshB (g := gb116) (o := .cells #[.slice (some ad120) l0_0.length c0_0, .string a0_1, .string a0_2, .slice A0_3 l0_3.length c0_3] 25 (0, 0)) (by (with_reducible repeat (first | refine zG ?_ _ | refine zI ?_ | refine zF ?_ _)); exact BK116.out) k_ hk_)⟩)) (zK (by repeat (first | (with_reducible first | exact HB.out | apply zC | apply zA | apply zB | refine zE ?_ GE116.out) | exact HB.out)))); have n2_ := Aside0.mk (zM (g := gb116) (o := .cells #[.slice (some ad120) l0_0.length c0_0, .string a0_1, .string a0_2, .slice A0_3 l0_3.length c0_3] 25 (0, 0)) (by (with_reducible repeat (first | refine zG ?_ _ | refine zI ?_ | refine zF ?_ _)); exact BK116.out) hb); have n3_ := Aside0.mk (zL (by repeat (first | (with_reducible first | exact HB.out | apply zC | apply zA | apply zB | refine zE ?_ GE116.out) | exact HB.out)) hb); clear HO_3; clear BK116; clear HB; have HO_3 := n0_; have HO123 := n1_; have BK116 := n2_; have HB := n3_; clear n0_ n1_ n2_ n3_; (try clear hb); (try clear hb2); (try clear hk); (try clear hi); (try clear ho0); obtain ⟨Ao13, co13, eo13⟩ := Kd.R_slice HO_3.out; subst eo13; obtain ⟨Ao14, co14, eo14⟩ := Kd.V_slice HO123.out; subst eo14) | ((with_reducible refine gate_callee (f := 42) rfl ?_); refine goesL_ (some 24) rfl rfl Tryd.func42 (by kernel_rfl) rfl #[.slice Ao13 x3_1.length co13, .slice Ao14 t121.length co14] rfl (by (try simp only [List.map_toArray, List.map_cons, List.map_nil]); first | done | rfl | (simp only [List.length_drop, List.length_take]; rfl)) ?_; (with_reducible refine (wire_Text.calls k1 _ _ x3_1 _ _ t121 t124 _ ?side1 ?side2 ?side3 ?side4 A11.out).mono ?_); (case side1 => repeat (first | exact (Kd.R_reads' HO_3.out).2.2 | (with_reducible refine Kd.C_alloc ?_ _) | (with_reducible refine Kd.C_drewN ?_ _) | (with_reducible refine Kd.C_drew ?_))); (case side2 => exact (Kd.R_reads' HO_3.out).2.1); (case side3 => repeat (first | exact (Kd.V_reads' HO123.out).2.2 | (with_reducible refine Kd.C_alloc ?_ _) | (with_reducible refine Kd.C_drewN ?_ _) | (with_reducible refine Kd.C_drew ?_))); (case side4 => exact (Kd.V_reads' HO123.out).2.1); rintro e w15 ⟨v125, rfl, ho0, hb⟩; refine ⟨_, rfl, ?_⟩; have n0_ := Aside0.mk (Kd.R_elder' (by (with_reducible repeat (first | apply Kd.R_alloc | apply Kd.R_drewN | apply Kd.R_drew)); exact HO_3.out) (Kd.R_base ho0) hb); have n1_ := Aside0.mk (Kd.V_elder' (by (with_reducible repeat (first | apply Kd.V_alloc | apply Kd.V_drewN | apply Kd.V_drew)); exact HO123.out) (Kd.R_base ho0) hb); have n2_ := Aside0.mk (Kd.R_lower (Kd.R_new' ho0 (Kd.R_lt (by (with_reducible repeat (first | apply Kd.R_alloc | apply Kd.R_drewN | apply Kd.R_drew)); exact HO_3.out))) (zK (by repeat (first | (with_reducible first | exact HB.out | apply zC | apply zA | apply zB | refine zE ?_ GE116.out) | exact HB.out)))); have n3_ := Aside0.mk (zM (g := gb116) (o := .cells #[.slice (some ad120) l0_0.length c0_0, .string a0_1, .string a0_2, .slice A0_3 l0_3.length c0_3] 25 (0, 0)) (by (with_reducible repeat (first | refine zG ?_ _ | refine zI ?_ | refine zF ?_ _)); exact BK116.out) hb); have n4_ := Aside0.mk (zL (by repeat (first | (with_reducible first | exact HB.out | apply zC | apply zA | apply zB | refine zE ?_ GE116.out) | exact HB.out)) hb); clear HO_3; clear HO123; clear BK116; clear HB; have HO_3 := n0_; have HO123 := n1_; have HO126 := n2_; have BK116 := n3_; have HB := n4_; clear n0_ n1_ n2_ n3_ n4_; (try clear hb); (try clear hb2); (try clear hk); (try clear hi); (try clear ho0)))
      go_roundg k1
      case measure => have := HK1.out; omega
      case rel => exact ⟨(t124), (wrap64 (x17_1 + 1)), (by first | rfl | (simp; done) | (simp [*]; done)), H', ⟨by have := HK1.out; omega⟩, ⟨by (with_reducible repeat (first | apply Kd.R_alloc | apply Kd.R_drewN | apply Kd.R_drew)); exact Kd.R_mono HO126.out (fun _ hk => trivial)⟩, ⟨by (with_reducible repeat (first | refine zG ?_ _ | refine zI ?_ | refine zF ?_ _)); exact BK116.out⟩, ⟨by repeat (first | (with_reducible first | exact HB.out | apply zC | apply zA | apply zB | refine zE ?_ GE116.out) | exact HB.out)⟩⟩
     ·
      rw [if_neg c9] at H
      exact absurd H (by simp)
    ·
     rw [if_neg c8] at H
     exact absurd H (by simp)
   ·
    rw [if_neg c7] at H
    have c7b0 : decide (x17_1 < (l0_0.length : Int)) = false := decide_eq_false c7
    clear c7
    replace H := Option.bind_eq_some_iff.mp H
    obtain ⟨t127, A160, H⟩ := H
    replace H : ((wire_Text.f k1 x3_1 t127).bind fun t130 => ((conv_b a0_2).bind fun t133 => ((wire_Text.f k1 t130 t133).bind fun t136 => ((wire_Num.f k1 t136 (IntKind.u64.wrap ((l0_3.length : Int)))).bind fun t139 => (patch_form.l1 k1 t139 l0_3 (l0_3.length : Int) 0))))) = some r := H
    have A16 := Aside0.mk A160
    clear A160
    replace H := Option.bind_eq_some_iff.mp H
    obtain ⟨t130, A170, H⟩ := H
    replace H : ((conv_b a0_2).bind fun t133 => ((wire_Text.f k1 t130 t133).bind fun t136 => ((wire_Num.f k1 t136 (IntKind.u64.wrap ((l0_3.length : Int)))).bind fun t139 => (patch_form.l1 k1 t139 l0_3 (l0_3.length : Int) 0)))) = some r := H
    have A17 := Aside0.mk A170
    clear A170
    replace H := Option.bind_eq_some_iff.mp H
    obtain ⟨t133, A180, H⟩ := H
    replace H : ((wire_Text.f k1 t130 t133).bind fun t136 => ((wire_Num.f k1 t136 (IntKind.u64.wrap ((l0_3.length : Int)))).bind fun t139 => (patch_form.l1 k1 t139 l0_3 (l0_3.length : Int) 0))) = some r := H
    have A18 := Aside0.mk A180
    clear A180
    replace H := Option.bind_eq_some_iff.mp H
    obtain ⟨t136, A190, H⟩ := H
    replace H : ((wire_Num.f k1 t136 (IntKind.u64.wrap ((l0_3.length : Int)))).bind fun t139 => (patch_form.l1 k1 t139 l0_3 (l0_3.length : Int) 0)) = some r := H
    have A19 := Aside0.mk A190
    clear A190
    replace H := Option.bind_eq_some_iff.mp H
    obtain ⟨t139, A200, H⟩ := H
    replace H : (patch_form.l1 k1 t139 l0_3 (l0_3.length : Int) 0) = some r := H
    have A20 := Aside0.mk A200
    clear A200
    have H' := Aside0.mk H
    clear H
    obtain ⟨Ao21, co21, eo21⟩ := Kd.R_slice HO_3.out
    subst eo21
    try go_wp2
    have n0_ := Aside0.mk (Kd.R_drew HO_3.out)
    have n1_ := Aside0.mk (zI BK116.out)
    have n2_ := Aside0.mk (zB HB.out)
    clear HO_3
    clear BK116
    clear HB
    have HO_3 := n0_
    have BK116 := n1_
    have HB := n2_
    clear n0_ n1_ n2_
    refine start_ (n := 10) (S := fun w' => w'.cell? ⟨gb116, 0, none⟩ = some (.slice A0_0 l0_0.length c0_0) ∧ w'.cell? ⟨gb116, 1, none⟩ = some (.string a0_1) ∧ w'.cell? ⟨gb116, 2, none⟩ = some (.string a0_2) ∧ w'.cell? ⟨gb116, 3, none⟩ = some (.slice A0_3 l0_3.length c0_3)) (ds := []) #[false, false, false, false, false, false, false, false, false, false] (by kernel_rfl) rfl rfl ⟨(zD BK116.out 0).trans rfl, (zD BK116.out 1).trans rfl, (zD BK116.out 2).trans rfl, (zD BK116.out 3).trans rfl⟩ (fun hHeld => ?_); refine with_tabW patch_form.tab7 patch_form.bits7 (fun HT_ HW_ => ?_)
    generalize wr.drew = w22 at HO_3 BK116 HB hHeld ⊢
    refine pure_ (i := 0) (N := some 26) (v := ?_) (a' := ?_) #[true, false, false, false, false, false, false, false, false, false] rfl rfl (zP HT_.out (by kernel_rfl)) (fun _ _ _ h => h) (Or.inl ⟨by rfl, ?_⟩) ?_ ?_
    rotate_left
    ·
     intro w'
     go_simp
     with_reducible rfl
    rotate_left
    ·
     simp only [Act.put, List.setIfInBounds_toArray, List.set_cons_zero, List.set_cons_succ, i64_w, i32_w]
     rfl
    refine pure_ (i := 1) (N := some 27) (v := ?_) (a' := ?_) #[true, true, false, false, false, false, false, false, false, false] rfl rfl (zP HT_.out (by kernel_rfl)) (fun _ _ _ h => h) (Or.inl ⟨by rfl, ?_⟩) ?_ ?_
    rotate_left
    ·
     intro w'
     go_simp
     with_reducible rfl
    rotate_left
    ·
     simp only [Act.put, List.setIfInBounds_toArray, List.set_cons_zero, List.set_cons_succ, i64_w, i32_w]
     rfl
    refine pure_ (i := 5) (N := some 31) (v := ?_) (a' := ?_) #[true, true, false, false, false, true, false, false, false, false] rfl rfl (zP HT_.out (by kernel_rfl)) (fun _ _ _ h => h) (Or.inl ⟨by rfl, ?_⟩) ?_ ?_
    rotate_left
    ·
     intro w'
     go_simp
     with_reducible rfl
    rotate_left
    ·
     simp only [Act.put, List.setIfInBounds_toArray, List.set_cons_zero, List.set_cons_succ, i64_w, i32_w]
     rfl
    refine take_ (i := 2) (N := some 28) (v := ?_) (a' := ?_) #[true, true, true, false, false, true, false, false, false, false] rfl rfl (zR HT_.out HW_.out (by kernel_rfl)) (fun _ _ _ h => h) (Or.inl ⟨by rfl, ?_⟩) hHeld ?_ ?_
    rotate_left
    ·
     rintro w' ⟨s0, s1, s2, s3⟩
     go_simp
     with_reducible rfl
    rotate_left
    ·
     simp only [Act.put, List.setIfInBounds_toArray, List.set_cons_zero, List.set_cons_succ, i64_w, i32_w]
     rfl
    refine take_ (i := 6) (N := some 32) (v := ?_) (a' := ?_) #[true, true, true, false, false, true, true, false, false, false] rfl rfl (zR HT_.out HW_.out (by kernel_rfl)) (fun _ _ _ h => h) (Or.inl ⟨by rfl, ?_⟩) hHeld ?_ ?_
    rotate_left
    ·
     rintro w' ⟨s0, s1, s2, s3⟩
     go_simp
     with_reducible rfl
    rotate_left
    ·
     simp only [Act.put, List.setIfInBounds_toArray, List.set_cons_zero, List.set_cons_succ, i64_w, i32_w]
     rfl
    refine join_ (σ := Value × Value × Value) 2 #[true, true, true, true, true, true, true, true, false, false] (fun s_ => [(29, s_.1), (30, s_.2.1), (33, s_.2.2)]) (fun s_ w' => (w'.cell? ⟨gb116, 0, none⟩ = some (.slice A0_0 l0_0.length c0_0) ∧ w'.cell? ⟨gb116, 1, none⟩ = some (.string a0_1) ∧ w'.cell? ⟨gb116, 2, none⟩ = some (.string a0_2) ∧ w'.cell? ⟨gb116, 3, none⟩ = some (.slice A0_3 l0_3.length c0_3)) ∧ (Kd.V (Kd.int .u8) 5 w' w.heap.size (fun k_ => some k_ ≠ (s_.2.1 : Value).ownBlock ∧ some k_ ≠ (.slice Ao21 x3_1.length co21 : Value).ownBlock ∧ k_ ≠ gb116) s_.1 t127) ∧ (Kd.R (Kd.int .u8) 5 w' w.heap.size (fun k_ => some k_ ≠ (.slice Ao21 x3_1.length co21 : Value).ownBlock) s_.2.1 t130) ∧ (Kd.V (Kd.int .u8) 5 w' w.heap.size (fun k_ => some k_ ≠ (s_.2.1 : Value).ownBlock ∧ some k_ ≠ (.slice Ao21 x3_1.length co21 : Value).ownBlock ∧ k_ ≠ gb116) s_.2.2 t133) ∧ (Kd.R (Kd.int .u8) 5 w' w.heap.size (fun k_ => some k_ ≠ (s_.2.1 : Value).ownBlock) (.slice Ao21 x3_1.length co21) x3_1) ∧ (w'.heap[gb116]? = some (.cells #[.slice A0_0 l0_0.length c0_0, .string a0_1, .string a0_2, .slice A0_3 l0_3.length c0_3] 25 (0, 0))) ∧ (Below w.heap.size w w')) ?_ ?_
    rotate_left
    ·
     intro hCont
     refine two_ (i := 3) (j := 7) (Ni := some 29) (Nj := some 33) #[true, true, true, true, false, true, true, false, false, false] #[true, true, true, false, false, true, true, true, false, false] rfl rfl rfl rfl (two_of HT_.out (by kernel_rfl)) (by decide) (by decide) (fun K hK => ?_) (fun K hK => ?_)
     ·
      skip
      refine conv_goes_ (by rfl) rfl rfl a0_1 (by first | rfl | (simp only [Act.eval]; rfl)) Tryd.underlying9 Tryd.underlying26 Tryd.underlying5 A16.out ?_
      intro v128 w23 ho0 hb
      have n0_ := Aside0.mk (Kd.R_below (by (with_reducible repeat (first | apply Kd.R_alloc | apply Kd.R_drewN | apply Kd.R_drew)); exact HO_3.out) hb)
      have n1_ := Aside0.mk (Kd.V_lower (Kd.V_mono (ok' := fun k_ => some k_ ≠ (.slice Ao21 x3_1.length co21 : Value).ownBlock ∧ k_ ≠ gb116) ho0 (fun k_ hk_ => ⟨(Kd.fresh' (Kd.R_lt (by (with_reducible repeat (first | apply Kd.R_alloc | apply Kd.R_drewN | apply Kd.R_drew)); exact HO_3.out)) k_ hk_), (Kd.freshB (g := gb116) (o := .cells #[.slice A0_0 l0_0.length c0_0, .string a0_1, .string a0_2, .slice A0_3 l0_3.length c0_3] 25 (0, 0)) (by (with_reducible repeat (first | refine zG ?_ _ | refine zI ?_ | refine zF ?_ _)); exact BK116.out) k_ hk_)⟩)) (zK (by repeat (first | (with_reducible first | exact HB.out | apply zC | apply zA | apply zB | refine zE ?_ GE116.out) | exact HB.out))))
      have n2_ := Aside0.mk (zM (g := gb116) (o := .cells #[.slice A0_0 l0_0.length c0_0, .string a0_1, .string a0_2, .slice A0_3 l0_3.length c0_3] 25 (0, 0)) (by (with_reducible repeat (first | refine zG ?_ _ | refine zI ?_ | refine zF ?_ _)); exact BK116.out) hb)
      have n3_ := Aside0.mk (zL (by repeat (first | (with_reducible first | exact HB.out | apply zC | apply zA | apply zB | refine zE ?_ GE116.out) | exact HB.out)) hb)
      clear HO_3
      clear BK116
      clear HB
      have HO_3 := n0_
      have HO129 := n1_
      have BK116 := n2_
      have HB := n3_
      clear n0_ n1_ n2_ n3_
      (try clear hb)
      (try clear hb2)
      (try clear hk)
      (try clear hi)
      (try clear ho0)
      obtain ⟨Ao24, co24, eo24⟩ := Kd.V_slice HO129.out
      (first | subst eo24 | (injection eo24 with f1_ f2_ f3_; have f4_ := f1_.symm; have f5_ := f3_.symm; clear f1_ f2_ f3_; subst f4_; subst f5_))
      refine hK.out _ _ ⟨(zD BK116.out 0).trans rfl, (zD BK116.out 1).trans rfl, (zD BK116.out 2).trans rfl, (zD BK116.out 3).trans rfl⟩ (fun hHeld => ?_)
      clear hK K
      refine norm_ (a' := ?_) ?_ ?_
      rotate_left
      ·
       show Act.put _ (some 29) _ = _
       simp only [Act.put, List.setIfInBounds_toArray, List.set_cons_zero, List.set_cons_succ, i64_w, i32_w]
       rfl
      refine two_ (i := 4) (j := 7) (Ni := some 30) (Nj := some 33) #[true, true, true, true, true, true, true, false, false, false] #[true, true, true, true, false, true, true, true, false, false] rfl rfl rfl rfl (two_of HT_.out (by kernel_rfl)) (by decide) (by decide) (fun K hK => ?_) (fun K hK => ?_)
      ·
       skip
       refine goes_ Tryd.func42 (by kernel_rfl) rfl #[.slice Ao21 x3_1.length co21, .slice Ao24 t127.length co24] (by rfl) rfl rfl (by (try simp only [List.map_toArray, List.map_cons, List.map_nil]); first | done | rfl | (simp only [List.length_drop, List.length_take]; rfl)) ?_
       with_reducible refine (wire_Text.calls k1 _ _ x3_1 _ _ t127 t130 _ ?side1 ?side2 ?side3 ?side4 A17.out).mono ?_
       (case side1 => repeat (first | exact (Kd.R_reads' HO_3.out).2.2 | (with_reducible refine Kd.C_alloc ?_ _) | (with_reducible refine Kd.C_drewN ?_ _) | (with_reducible refine Kd.C_drew ?_)))
       (case side2 => exact (Kd.R_reads' HO_3.out).2.1)
       (case side3 => repeat (first | exact (Kd.V_reads' HO129.out).2.2 | (with_reducible refine Kd.C_alloc ?_ _) | (with_reducible refine Kd.C_drewN ?_ _) | (with_reducible refine Kd.C_drew ?_)))
       (case side4 => exact (Kd.V_reads' HO129.out).2.1)
       rintro e w25 ⟨v131, rfl, ho0, hb⟩
       refine ⟨_, rfl, ?_⟩
       have n0_ := Aside0.mk (Kd.R_elder' (by (with_reducible repeat (first | apply Kd.R_alloc | apply Kd.R_drewN | apply Kd.R_drew)); exact HO_3.out) (Kd.R_base ho0) hb)
       have n1_ := Aside0.mk (Kd.V_elder' (by (with_reducible repeat (first | apply Kd.V_alloc | apply Kd.V_drewN | apply Kd.V_drew)); exact HO129.out) (Kd.R_base ho0) hb)
       have n2_ := Aside0.mk (Kd.R_lower (Kd.R_new' ho0 (Kd.R_lt (by (with_reducible repeat (first | apply Kd.R_alloc | apply Kd.R_drewN | apply Kd.R_drew)); exact HO_3.out))) (zK (by repeat (first | (with_reducible first | exact HB.out | apply zC | apply zA | apply zB | refine zE ?_ GE116.out) | exact HB.out))))
       have n3_ := Aside0.mk (zM (g := gb116) (o := .cells #[.slice A0_0 l0_0.length c0_0, .string a0_1, .string a0_2, .slice A0_3 l0_3.length c0_3] 25 (0, 0)) (by (with_reducible repeat (first | refine zG ?_ _ | refine zI ?_ | refine zF ?_ _)); exact BK116.out) hb)
       have n4_ := Aside0.mk (zL (by repeat (first | (with_reducible first | exact HB.out | apply zC | apply zA | apply zB | refine zE ?_ GE116.out) | exact HB.out)) hb)
       clear HO_3
       clear HO129
       clear BK116
       clear HB
       have HO_3 := n0_
       have HO129 := n1_
       have HO132 := n2_
       have BK116 := n3_
       have HB := n4_
       clear n0_ n1_ n2_ n3_ n4_
       (try clear hb)
       (try clear hb2)
       (try clear hk)
       (try clear hi)
       (try clear ho0)
       refine hK.out _ _ ⟨(zD BK116.out 0).trans rfl, (zD BK116.out 1).trans rfl, (zD BK116.out 2).trans rfl, (zD BK116.out 3).trans rfl⟩ (fun hHeld => ?_)
       clear hK K
       refine norm_ (a' := ?_) ?_ ?_
       rotate_left
       ·
        show Act.put _ (some 30) _ = _
        simp only [Act.put, List.setIfInBounds_toArray, List.set_cons_zero, List.set_cons_succ, i64_w, i32_w]
        rfl
       refine one_ (i := 7) (N := some 33) #[true, true, true, true, true, true, true, true, false, false] rfl rfl (one_of HT_.out (by kernel_rfl)) (by decide) (fun K hK => ?_)
       refine conv_goes_ (by rfl) rfl rfl a0_2 (by first | rfl | (simp only [Act.eval]; rfl)) Tryd.underlying9 Tryd.underlying26 Tryd.underlying5 A18.out ?_
       intro v134 w26 ho0 hb
       have n0_ := Aside0.mk (Kd.R_below (by (with_reducible repeat (first | apply Kd.R_alloc | apply Kd.R_drewN | apply Kd.R_drew)); exact HO_3.out) hb)
       have n1_ := Aside0.mk (Kd.V_below (by (with_reducible repeat (first | apply Kd.V_alloc | apply Kd.V_drewN | apply Kd.V_drew)); exact HO129.out) hb)
       have n2_ := Aside0.mk (Kd.R_below (by (with_reducible repeat (first | apply Kd.R_alloc | apply Kd.R_drewN | apply Kd.R_drew)); exact HO132.out) hb)
       have n3_ := Aside0.mk (Kd.V_lower (Kd.V_mono (ok' := fun k_ => some k_ ≠ (.slice Ao21 x3_1.length co21 : Value).ownBlock ∧ some k_ ≠ (v131 : Value).ownBlock ∧ k_ ≠ gb116) ho0 (fun k_ hk_ => ⟨(Kd.fresh' (Kd.R_lt (by (with_reducible repeat (first | apply Kd.R_alloc | apply Kd.R_drewN | apply Kd.R_drew)); exact HO_3.out)) k_ hk_), (Kd.fresh' (Kd.R_lt (by (with_reducible repeat (first | apply Kd.R_alloc | apply Kd.R_drewN | apply Kd.R_drew)); exact HO132.out)) k_ hk_), (Kd.freshB (g := gb116) (o := .cells #[.slice A0_0 l0_0.length c0_0, .string a0_1, .string a0_2, .slice A0_3 l0_3.length c0_3] 25 (0, 0)) (by (with_reducible repeat (first | refine zG ?_ _ | refine zI ?_ | refine zF ?_ _)); exact BK116.out) k_ hk_)⟩)) (zK (by repeat (first | (with_reducible first | exact HB.out | apply zC | apply zA | apply zB | refine zE ?_ GE116.out) | exact HB.out))))
       have n4_ := Aside0.mk (zM (g := gb116) (o := .cells #[.slice A0_0 l0_0.length c0_0, .string a0_1, .string a0_2, .slice A0_3 l0_3.length c0_3] 25 (0, 0)) (by (with_reducible repeat (first | refine zG ?_ _ | refine zI ?_ | refine zF ?_ _)); exact BK116.out) hb)
       have n5_ := Aside0.mk (zL (by repeat (first | (with_reducible first | exact HB.out | apply zC | apply zA | apply zB | refine zE ?_ GE116.out) | exact HB.out)) hb)
       clear HO_3
       clear HO129
       clear HO132
       clear BK116
       clear HB
       have HO_3 := n0_
       have HO129 := n1_
       have HO132 := n2_
       have HO135 := n3_
       have BK116 := n4_
       have HB := n5_
       clear n0_ n1_ n2_ n3_ n4_ n5_
       (try clear hb)
       (try clear hb2)
       (try clear hk)
       (try clear hi)
       (try clear ho0)
       refine hK.out _ _ ⟨(zD BK116.out 0).trans rfl, (zD BK116.out 1).trans rfl, (zD BK116.out 2).trans rfl, (zD BK116.out 3).trans rfl⟩ (fun hHeld => ?_)
       clear hK K
       refine norm_ (a' := ?_) ?_ ?_
       rotate_left
       ·
        show Act.put _ (some 33) _ = _
        simp only [Act.put, List.setIfInBounds_toArray, List.set_cons_zero, List.set_cons_succ, i64_w, i32_w]
        rfl
       exact norm_ (by simp only [putAll, Act.put, List.setIfInBounds_toArray, List.set_cons_zero, List.set_cons_succ]) (hCont (.slice Ao24 t127.length co24, v131, v134) _ ⟨hHeld, (by (with_reducible repeat (first | apply Kd.V_alloc | apply Kd.V_drewN | apply Kd.V_drew)); exact Kd.V_mono HO129.out (fun _ hk => ⟨hk.2, ⟨hk.1.1, hk.1.2⟩⟩)), (by (with_reducible repeat (first | apply Kd.R_alloc | apply Kd.R_drewN | apply Kd.R_drew)); exact Kd.R_mono HO132.out (fun _ hk => hk.2)), (by (with_reducible repeat (first | apply Kd.V_alloc | apply Kd.V_drewN | apply Kd.V_drew)); exact Kd.V_mono HO135.out (fun _ hk => ⟨hk.2.1, ⟨hk.1, hk.2.2⟩⟩)), (by (with_reducible repeat (first | apply Kd.R_alloc | apply Kd.R_drewN | apply Kd.R_drew)); exact Kd.R_mono HO_3.out (fun _ hk => hk.2)), (by (with_reducible repeat (first | refine zG ?_ _ | refine zI ?_ | refine zF ?_ _)); exact BK116.out), (by repeat (first | (with_reducible first | exact HB.out | apply zC | apply zA | apply zB | refine zE ?_ GE116.out) | exact HB.out))⟩)
      ·
       skip
       refine conv_goes_ (by rfl) rfl rfl a0_2 (by first | rfl | (simp only [Act.eval]; rfl)) Tryd.underlying9 Tryd.underlying26 Tryd.underlying5 A18.out ?_
       intro v134 w24 ho0 hb
       have n0_ := Aside0.mk (Kd.R_below (by (with_reducible repeat (first | apply Kd.R_alloc | apply Kd.R_drewN | apply Kd.R_drew)); exact HO_3.out) hb)
       have n1_ := Aside0.mk (Kd.V_below (by (with_reducible repeat (first | apply Kd.V_alloc | apply Kd.V_drewN | apply Kd.V_drew)); exact HO129.out) hb)
       have n2_ := Aside0.mk (Kd.V_lower (Kd.V_mono (ok' := fun k_ => some k_ ≠ (.slice Ao21 x3_1.length co21 : Value).ownBlock ∧ k_ ≠ gb116) ho0 (fun k_ hk_ => ⟨(Kd.fresh' (Kd.R_lt (by (with_reducible repeat (first | apply Kd.R_alloc | apply Kd.R_drewN | apply Kd.R_drew)); exact HO_3.out)) k_ hk_), (Kd.freshB (g := gb116) (o := .cells #[.slice A0_0 l0_0.length c0_0, .string a0_1, .string a0_2, .slice A0_3 l0_3.length c0_3] 25 (0, 0)) (by (with_reducible repeat (first | refine zG ?_ _ | refine zI ?_ | refine zF ?_ _)); exact BK116.out) k_ hk_)⟩)) (zK (by repeat (first | (with_reducible first | exact HB.out | apply zC | apply zA | apply zB | refine zE ?_ GE116.out) | exact HB.out))))
       have n3_ := Aside0.mk (zM (g := gb116) (o := .cells #[.slice A0_0 l0_0.length c0_0, .string a0_1, .string a0_2, .slice A0_3 l0_3.length c0_3] 25 (0, 0)) (by (with_reducible repeat (first | refine zG ?_ _ | refine zI ?_ | refine zF ?_ _)); exact BK116.out) hb)
       have n4_ := Aside0.mk (zL (by repeat (first | (with_reducible first | exact HB.out | apply zC | apply zA | apply zB | refine zE ?_ GE116.out) | exact HB.out)) hb)
       clear HO_3
       clear HO129
       clear BK116
       clear HB
       have HO_3 := n0_
       have HO129 := n1_
       have HO135 := n2_
       have BK116 := n3_
       have HB := n4_
       clear n0_ n1_ n2_ n3_ n4_
       (try clear hb)
       (try clear hb2)
       (try clear hk)
       (try clear hi)
       (try clear ho0)
       obtain ⟨Ao25, co25, eo25⟩ := Kd.V_slice HO129.out
       (first | subst eo25 | (injection eo25 with f1_ f2_ f3_; have f4_ := f1_.symm; have f5_ := f3_.symm; clear f1_ f2_ f3_; subst f4_; subst f5_))
       refine hK.out _ _ ⟨(zD BK116.out 0).trans rfl, (zD BK116.out 1).trans rfl, (zD BK116.out 2).trans rfl, (zD BK116.out 3).trans rfl⟩ (fun hHeld => ?_)
       clear hK K
       refine norm_ (a' := ?_) ?_ ?_
       rotate_left
       ·
        show Act.put _ (some 33) _ = _
        simp only [Act.put, List.setIfInBounds_toArray, List.set_cons_zero, List.set_cons_succ, i64_w, i32_w]
        rfl
       refine one_ (i := 4) (N := some 30) #[true, true, true, true, true, true, true, true, false, false] rfl rfl (one_of HT_.out (by kernel_rfl)) (by decide) (fun K hK => ?_)
       refine goes_ Tryd.func42 (by kernel_rfl) rfl #[.slice Ao21 x3_1.length co21, .slice Ao25 t127.length co25] (by rfl) rfl rfl (by (try simp only [List.map_toArray, List.map_cons, List.map_nil]); first | done | rfl | (simp only [List.length_drop, List.length_take]; rfl)) ?_
       with_reducible refine (wire_Text.calls k1 _ _ x3_1 _ _ t127 t130 _ ?side1 ?side2 ?side3 ?side4 A17.out).mono ?_
       (case side1 => repeat (first | exact (Kd.R_reads' HO_3.out).2.2 | (with_reducible refine Kd.C_alloc ?_ _) | (with_reducible refine Kd.C_drewN ?_ _) | (with_reducible refine Kd.C_drew ?_)))
       (case side2 => exact (Kd.R_reads' HO_3.out).2.1)
       (case side3 => repeat (first | exact (Kd.V_reads' HO129.out).2.2 | (with_reducible refine Kd.C_alloc ?_ _) | (with_reducible refine Kd.C_drewN ?_ _) | (with_reducible refine Kd.C_drew ?_)))
       (case side4 => exact (Kd.V_reads' HO129.out).2.1)
       rintro e w26 ⟨v131, rfl, ho0, hb⟩
       refine ⟨_, rfl, ?_⟩
       have n0_ := Aside0.mk (Kd.R_elder' (by (with_reducible repeat (first | apply Kd.R_alloc | apply Kd.R_drewN | apply Kd.R_drew)); exact HO_3.out) (Kd.R_base ho0) hb)
       have n1_ := Aside0.mk (Kd.V_elder' (by (with_reducible repeat (first | apply Kd.V_alloc | apply Kd.V_drewN | apply Kd.V_drew)); exact HO129.out) (Kd.R_base ho0) hb)
       have n2_ := Aside0.mk (Kd.V_elder' (by (with_reducible repeat (first | apply Kd.V_alloc | apply Kd.V_drewN | apply Kd.V_drew)); exact HO135.out) (Kd.R_base ho0) hb)
       have n3_ := Aside0.mk (Kd.R_lower (Kd.R_new' ho0 (Kd.R_lt (by (with_reducible repeat (first | apply Kd.R_alloc | apply Kd.R_drewN | apply Kd.R_drew)); exact HO_3.out))) (zK (by repeat (first | (with_reducible first | exact HB.out | apply zC | apply zA | apply zB | refine zE ?_ GE116.out) | exact HB.out))))
       have n4_ := Aside0.mk (zM (g := gb116) (o := .cells #[.slice A0_0 l0_0.length c0_0, .string a0_1, .string a0_2, .slice A0_3 l0_3.length c0_3] 25 (0, 0)) (by (with_reducible repeat (first | refine zG ?_ _ | refine zI ?_ | refine zF ?_ _)); exact BK116.out) hb)
       have n5_ := Aside0.mk (zL (by repeat (first | (with_reducible first | exact HB.out | apply zC | apply zA | apply zB | refine zE ?_ GE116.out) | exact HB.out)) hb)
       clear HO_3
       clear HO129
       clear HO135
       clear BK116
       clear HB
       have HO_3 := n0_
       have HO129 := n1_
       have HO135 := n2_
       have HO132 := n3_
       have BK116 := n4_
       have HB := n5_
       clear n0_ n1_ n2_ n3_ n4_ n5_
       (try clear hb)
       (try clear hb2)
       (try clear hk)
       (try clear hi)
       (try clear ho0)
       refine hK.out _ _ ⟨(zD BK116.out 0).trans rfl, (zD BK116.out 1).trans rfl, (zD BK116.out 2).trans rfl, (zD BK116.out 3).trans rfl⟩ (fun hHeld => ?_)
       clear hK K
       refine norm_ (a' := ?_) ?_ ?_
       rotate_left
       ·
        show Act.put _ (some 30) _ = _
        simp only [Act.put, List.setIfInBounds_toArray, List.set_cons_zero, List.set_cons_succ, i64_w, i32_w]
        rfl
       exact norm_ (by simp only [putAll, Act.put, List.setIfInBounds_toArray, List.set_cons_zero, List.set_cons_succ]) (hCont (.slice Ao25 t127.length co25, v131, v134) _ ⟨hHeld, (by (with_reducible repeat (first | apply Kd.V_alloc | apply Kd.V_drewN | apply Kd.V_drew)); exact Kd.V_mono HO129.out (fun _ hk => ⟨hk.2, ⟨hk.1.1, hk.1.2⟩⟩)), (by (with_reducible repeat (first | apply Kd.R_alloc | apply Kd.R_drewN | apply Kd.R_drew)); exact Kd.R_mono HO132.out (fun _ hk => hk.2)), (by (with_reducible repeat (first | apply Kd.V_alloc | apply Kd.V_drewN | apply Kd.V_drew)); exact Kd.V_mono HO135.out (fun _ hk => ⟨hk.2, ⟨hk.1.1, hk.1.2⟩⟩)), (by (with_reducible repeat (first | apply Kd.R_alloc | apply Kd.R_drewN | apply Kd.R_drew)); exact Kd.R_mono HO_3.out (fun _ hk => hk.2)), (by (with_reducible repeat (first | refine zG ?_ _ | refine zI ?_ | refine zF ?_ _)); exact BK116.out), (by repeat (first | (with_reducible first | exact HB.out | apply zC | apply zA | apply zB | refine zE ?_ GE116.out) | exact HB.out))⟩)
     ·
      skip
      refine conv_goes_ (by rfl) rfl rfl a0_2 (by first | rfl | (simp only [Act.eval]; rfl)) Tryd.underlying9 Tryd.underlying26 Tryd.underlying5 A18.out ?_
      intro v134 w23 ho0 hb
      have n0_ := Aside0.mk (Kd.R_below (by (with_reducible repeat (first | apply Kd.R_alloc | apply Kd.R_drewN | apply Kd.R_drew)); exact HO_3.out) hb)
      have n1_ := Aside0.mk (Kd.V_lower (Kd.V_mono (ok' := fun k_ => some k_ ≠ (.slice Ao21 x3_1.length co21 : Value).ownBlock ∧ k_ ≠ gb116) ho0 (fun k_ hk_ => ⟨(Kd.fresh' (Kd.R_lt (by (with_reducible repeat (first | apply Kd.R_alloc | apply Kd.R_drewN | apply Kd.R_drew)); exact HO_3.out)) k_ hk_), (Kd.freshB (g := gb116) (o := .cells #[.slice A0_0 l0_0.length c0_0, .string a0_1, .string a0_2, .slice A0_3 l0_3.length c0_3] 25 (0, 0)) (by (with_reducible repeat (first | refine zG ?_ _ | refine zI ?_ | refine zF ?_ _)); exact BK116.out) k_ hk_)⟩)) (zK (by repeat (first | (with_reducible first | exact HB.out | apply zC | apply zA | apply zB | refine zE ?_ GE116.out) | exact HB.out))))
      have n2_ := Aside0.mk (zM (g := gb116) (o := .cells #[.slice A0_0 l0_0.length c0_0, .string a0_1, .string a0_2, .slice A0_3 l0_3.length c0_3] 25 (0, 0)) (by (with_reducible repeat (first | refine zG ?_ _ | refine zI ?_ | refine zF ?_ _)); exact BK116.out) hb)
      have n3_ := Aside0.mk (zL (by repeat (first | (with_reducible first | exact HB.out | apply zC | apply zA | apply zB | refine zE ?_ GE116.out) | exact HB.out)) hb)
      clear HO_3
      clear BK116
      clear HB
      have HO_3 := n0_
      have HO135 := n1_
      have BK116 := n2_
      have HB := n3_
      clear n0_ n1_ n2_ n3_
      (try clear hb)
      (try clear hb2)
      (try clear hk)
      (try clear hi)
      (try clear ho0)
      refine hK.out _ _ ⟨(zD BK116.out 0).trans rfl, (zD BK116.out 1).trans rfl, (zD BK116.out 2).trans rfl, (zD BK116.out 3).trans rfl⟩ (fun hHeld => ?_)
      clear hK K
      refine norm_ (a' := ?_) ?_ ?_
      rotate_left
      ·
       show Act.put _ (some 33) _ = _
       simp only [Act.put, List.setIfInBounds_toArray, List.set_cons_zero, List.set_cons_succ, i64_w, i32_w]
       rfl
      refine one_ (i := 3) (N := some 29) #[true, true, true, true, false, true, true, true, false, false] rfl rfl (one_of HT_.out (by kernel_rfl)) (by decide) (fun K hK => ?_)
      refine conv_goes_ (by rfl) rfl rfl a0_1 (by first | rfl | (simp only [Act.eval]; rfl)) Tryd.underlying9 Tryd.underlying26 Tryd.underlying5 A16.out ?_
      intro v128 w24 ho0 hb
      have n0_ := Aside0.mk (Kd.R_below (by (with_reducible repeat (first | apply Kd.R_alloc | apply Kd.R_drewN | apply Kd.R_drew)); exact HO_3.out) hb)
      have n1_ := Aside0.mk (Kd.V_below (by (with_reducible repeat (first | apply Kd.V_alloc | apply Kd.V_drewN | apply Kd.V_drew)); exact HO135.out) hb)
      have n2_ := Aside0.mk (Kd.V_lower (Kd.V_mono (ok' := fun k_ => some k_ ≠ (.slice Ao21 x3_1.length co21 : Value).ownBlock ∧ k_ ≠ gb116) ho0 (fun k_ hk_ => ⟨(Kd.fresh' (Kd.R_lt (by (with_reducible repeat (first | apply Kd.R_alloc | apply Kd.R_drewN | apply Kd.R_drew)); exact HO_3.out)) k_ hk_), (Kd.freshB (g := gb116) (o := .cells #[.slice A0_0 l0_0.length c0_0, .string a0_1, .string a0_2, .slice A0_3 l0_3.length c0_3] 25 (0, 0)) (by (with_reducible repeat (first | refine zG ?_ _ | refine zI ?_ | refine zF ?_ _)); exact BK116.out) k_ hk_)⟩)) (zK (by repeat (first | (with_reducible first | exact HB.out | apply zC | apply zA | apply zB | refine zE ?_ GE116.out) | exact HB.out))))
      have n3_ := Aside0.mk (zM (g := gb116) (o := .cells #[.slice A0_0 l0_0.length c0_0, .string a0_1, .string a0_2, .slice A0_3 l0_3.length c0_3] 25 (0, 0)) (by (with_reducible repeat (first | refine zG ?_ _ | refine zI ?_ | refine zF ?_ _)); exact BK116.out) hb)
      have n4_ := Aside0.mk (zL (by repeat (first | (with_reducible first | exact HB.out | apply zC | apply zA | apply zB | refine zE ?_ GE116.out) | exact HB.out)) hb)
      clear HO_3
      clear HO135
      clear BK116
      clear HB
      have HO_3 := n0_
      have HO135 := n1_
      have HO129 := n2_
      have BK116 := n3_
      have HB := n4_
      clear n0_ n1_ n2_ n3_ n4_
      (try clear hb)
      (try clear hb2)
      (try clear hk)
      (try clear hi)
      (try clear ho0)
      obtain ⟨Ao25, co25, eo25⟩ := Kd.V_slice HO129.out
      (first | subst eo25 | (injection eo25 with f1_ f2_ f3_; have f4_ := f1_.symm; have f5_ := f3_.symm; clear f1_ f2_ f3_; subst f4_; subst f5_))
      refine hK.out _ _ ⟨(zD BK116.out 0).trans rfl, (zD BK116.out 1).trans rfl, (zD BK116.out 2).trans rfl, (zD BK116.out 3).trans rfl⟩ (fun hHeld => ?_)
      clear hK K
      refine norm_ (a' := ?_) ?_ ?_
      rotate_left
      ·
       show Act.put _ (some 29) _ = _
       simp only [Act.put, List.setIfInBounds_toArray, List.set_cons_zero, List.set_cons_succ, i64_w, i32_w]
       rfl
      refine one_ (i := 4) (N := some 30) #[true, true, true, true, true, true, true, true, false, false] rfl rfl (one_of HT_.out (by kernel_rfl)) (by decide) (fun K hK => ?_)
      refine goes_ Tryd.func42 (by kernel_rfl) rfl #[.slice Ao21 x3_1.length co21, .slice Ao25 t127.length co25] (by rfl) rfl rfl (by (try simp only [List.map_toArray, List.map_cons, List.map_nil]); first | done | rfl | (simp only [List.length_drop, List.length_take]; rfl)) ?_
      with_reducible refine (wire_Text.calls k1 _ _ x3_1 _ _ t127 t130 _ ?side1 ?side2 ?side3 ?side4 A17.out).mono ?_
      (case side1 => repeat (first | exact (Kd.R_reads' HO_3.out).2.2 | (with_reducible refine Kd.C_alloc ?_ _) | (with_reducible refine Kd.C_drewN ?_ _) | (with_reducible refine Kd.C_drew ?_)))
      (case side2 => exact (Kd.R_reads' HO_3.out).2.1)
      (case side3 => repeat (first | exact (Kd.V_reads' HO129.out).2.2 | (with_reducible refine Kd.C_alloc ?_ _) | (with_reducible refine Kd.C_drewN ?_ _) | (with_reducible refine Kd.C_drew ?_)))
      (case side4 => exact (Kd.V_reads' HO129.out).2.1)
      rintro e w26 ⟨v131, rfl, ho0, hb⟩
      refine ⟨_, rfl, ?_⟩
      have n0_ := Aside0.mk (Kd.R_elder' (by (with_reducible repeat (first | apply Kd.R_alloc | apply Kd.R_drewN | apply Kd.R_drew)); exact HO_3.out) (Kd.R_base ho0) hb)
      have n1_ := Aside0.mk (Kd.V_elder' (by (with_reducible repeat (first | apply Kd.V_alloc | apply Kd.V_drewN | apply Kd.V_drew)); exact HO135.out) (Kd.R_base ho0) hb)
      have n2_ := Aside0.mk (Kd.V_elder' (by (with_reducible repeat (first | apply Kd.V_alloc | apply Kd.V_drewN | apply Kd.V_drew)); exact HO129.out) (Kd.R_base ho0) hb)
      have n3_ := Aside0.mk (Kd.R_lower (Kd.R_new' ho0 (Kd.R_lt (by (with_reducible repeat (first | apply Kd.R_alloc | apply Kd.R_drewN | apply Kd.R_drew)); exact HO_3.out))) (zK (by repeat (first | (with_reducible first | exact HB.out | apply zC | apply zA | apply zB | refine zE ?_ GE116.out) | exact HB.out))))
      have n4_ := Aside0.mk (zM (g := gb116) (o := .cells #[.slice A0_0 l0_0.length c0_0, .string a0_1, .string a0_2, .slice A0_3 l0_3.length c0_3] 25 (0, 0)) (by (with_reducible repeat (first | refine zG ?_ _ | refine zI ?_ | refine zF ?_ _)); exact BK116.out) hb)
      have n5_ := Aside0.mk (zL (by repeat (first | (with_reducible first | exact HB.out | apply zC | apply zA | apply zB | refine zE ?_ GE116.out) | exact HB.out)) hb)
      clear HO_3
      clear HO135
      clear HO129
      clear BK116
      clear HB
      have HO_3 := n0_
      have HO135 := n1_
      have HO129 := n2_
      have HO132 := n3_
      have BK116 := n4_
      have HB := n5_
      clear n0_ n1_ n2_ n3_ n4_ n5_
      (try clear hb)
      (try clear hb2)
      (try clear hk)
      (try clear hi)
      (try clear ho0)
      refine hK.out _ _ ⟨(zD BK116.out 0).trans rfl, (zD BK116.out 1).trans rfl, (zD BK116.out 2).trans rfl, (zD BK116.out 3).trans rfl⟩ (fun hHeld => ?_)
      clear hK K
      refine norm_ (a' := ?_) ?_ ?_
      rotate_left
      ·
       show Act.put _ (some 30) _ = _
       simp only [Act.put, List.setIfInBounds_toArray, List.set_cons_zero, List.set_cons_succ, i64_w, i32_w]
       rfl
      exact norm_ (by simp only [putAll, Act.put, List.setIfInBounds_toArray, List.set_cons_zero, List.set_cons_succ]) (hCont (.slice Ao25 t127.length co25, v131, v134) _ ⟨hHeld, (by (with_reducible repeat (first | apply Kd.V_alloc | apply Kd.V_drewN | apply Kd.V_drew)); exact Kd.V_mono HO129.out (fun _ hk => ⟨hk.2, ⟨hk.1.1, hk.1.2⟩⟩)), (by (with_reducible repeat (first | apply Kd.R_alloc | apply Kd.R_drewN | apply Kd.R_drew)); exact Kd.R_mono HO132.out (fun _ hk => hk.2)), (by (with_reducible repeat (first | apply Kd.V_alloc | apply Kd.V_drewN | apply Kd.V_drew)); exact Kd.V_mono HO135.out (fun _ hk => ⟨hk.2, ⟨hk.1.1, hk.1.2⟩⟩)), (by (with_reducible repeat (first | apply Kd.R_alloc | apply Kd.R_drewN | apply Kd.R_drew)); exact Kd.R_mono HO_3.out (fun _ hk => hk.2)), (by (with_reducible repeat (first | refine zG ?_ _ | refine zI ?_ | refine zF ?_ _)); exact BK116.out), (by repeat (first | (with_reducible first | exact HB.out | apply zC | apply zA | apply zB | refine zE ?_ GE116.out) | exact HB.out))⟩)
    rintro ⟨v128, v131, v134⟩ w27 ⟨hS_, h0_, h1_, h2_, h3_, h4_, h5_⟩
    have n0_ : Aside0 (Kd.V (Kd.int .u8) 5 w27 w.heap.size (fun k_ => some k_ ≠ (v131 : Value).ownBlock ∧ some k_ ≠ (.slice Ao21 x3_1.length co21 : Value).ownBlock ∧ k_ ≠ gb116) v128 t127) := ⟨h0_⟩
    have n1_ : Aside0 (Kd.R (Kd.int .u8) 5 w27 w.heap.size (fun k_ => some k_ ≠ (.slice Ao21 x3_1.length co21 : Value).ownBlock) v131 t130) := ⟨h1_⟩
    have n2_ : Aside0 (Kd.V (Kd.int .u8) 5 w27 w.heap.size (fun k_ => some k_ ≠ (v131 : Value).ownBlock ∧ some k_ ≠ (.slice Ao21 x3_1.length co21 : Value).ownBlock ∧ k_ ≠ gb116) v134 t133) := ⟨h2_⟩
    have n3_ : Aside0 (Kd.R (Kd.int .u8) 5 w27 w.heap.size (fun k_ => some k_ ≠ (v131 : Value).ownBlock) (.slice Ao21 x3_1.length co21) x3_1) := ⟨h3_⟩
    have n4_ : Aside0 (w27.heap[gb116]? = some (.cells #[.slice A0_0 l0_0.length c0_0, .string a0_1, .string a0_2, .slice A0_3 l0_3.length c0_3] 25 (0, 0))) := ⟨h4_⟩
    have n5_ : Aside0 (Below w.heap.size w w27) := ⟨h5_⟩
    clear HO_3
    clear BK116
    clear HB
    clear h0_ h1_ h2_ h3_ h4_ h5_
    have HO129 := n0_
    have HO132 := n1_
    have HO135 := n2_
    have HO_3 := n3_
    have BK116 := n4_
    have HB := n5_
    clear n0_ n1_ n2_ n3_ n4_ n5_
    have hHeld : w27.cell? ⟨gb116, 0, none⟩ = some (.slice A0_0 l0_0.length c0_0) ∧ w27.cell? ⟨gb116, 1, none⟩ = some (.string a0_1) ∧ w27.cell? ⟨gb116, 2, none⟩ = some (.string a0_2) ∧ w27.cell? ⟨gb116, 3, none⟩ = some (.slice A0_3 l0_3.length c0_3) := hS_
    obtain ⟨Ao28, co28, eo28⟩ := Kd.R_slice HO132.out
    (first | subst eo28 | (injection eo28 with f1_ f2_ f3_; have f4_ := f1_.symm; have f5_ := f3_.symm; clear f1_ f2_ f3_; subst f4_; subst f5_))
    obtain ⟨Ao29, co29, eo29⟩ := Kd.V_slice HO135.out
    (first | subst eo29 | (injection eo29 with f1_ f2_ f3_; have f4_ := f1_.symm; have f5_ := f3_.symm; clear f1_ f2_ f3_; subst f4_; subst f5_))
    refine norm_ (a' := ?_) ?_ ?_
    rotate_left
    ·
     simp only [putAll, Act.put, List.setIfInBounds_toArray, List.set_cons_zero, List.set_cons_succ]
     rfl
    refine one_ (i := 8) (N := some 34) #[true, true, true, true, true, true, true, true, true, false] rfl rfl (one_of HT_.out (by kernel_rfl)) (by decide) (fun K hK => ?_)
    refine goes_ Tryd.func42 (by kernel_rfl) rfl #[.slice Ao28 t130.length co28, .slice Ao29 t133.length co29] (by rfl) rfl rfl (by (try simp only [List.map_toArray, List.map_cons, List.map_nil]); first | done | rfl | (simp only [List.length_drop, List.length_take]; rfl)) ?_
    with_reducible refine (wire_Text.calls k1 _ _ t130 _ _ t133 t136 _ ?side1 ?side2 ?side3 ?side4 A19.out).mono ?_
    (case side1 => repeat (first | exact (Kd.R_reads' HO132.out).2.2 | (with_reducible refine Kd.C_alloc ?_ _) | (with_reducible refine Kd.C_drewN ?_ _) | (with_reducible refine Kd.C_drew ?_)))
    (case side2 => exact (Kd.R_reads' HO132.out).2.1)
    (case side3 => repeat (first | exact (Kd.V_reads' HO135.out).2.2 | (with_reducible refine Kd.C_alloc ?_ _) | (with_reducible refine Kd.C_drewN ?_ _) | (with_reducible refine Kd.C_drew ?_)))
    (case side4 => exact (Kd.V_reads' HO135.out).2.1)
    rintro e w30 ⟨v137, rfl, ho0, hb⟩
    refine ⟨_, rfl, ?_⟩
    have n0_ := Aside0.mk (Kd.R_elder' (by (with_reducible repeat (first | apply Kd.R_alloc | apply Kd.R_drewN | apply Kd.R_drew)); exact HO_3.out) (Kd.R_base ho0) hb)
    have n1_ := Aside0.mk (Kd.V_elder' (by (with_reducible repeat (first | apply Kd.V_alloc | apply Kd.V_drewN | apply Kd.V_drew)); exact HO129.out) (Kd.R_base ho0) hb)
    have n2_ := Aside0.mk (Kd.R_elder' (by (with_reducible repeat (first | apply Kd.R_alloc | apply Kd.R_drewN | apply Kd.R_drew)); exact HO132.out) (Kd.R_base ho0) hb)
    have n3_ := Aside0.mk (Kd.V_elder' (by (with_reducible repeat (first | apply Kd.V_alloc | apply Kd.V_drewN | apply Kd.V_drew)); exact HO135.out) (Kd.R_base ho0) hb)
    have n4_ := Aside0.mk (Kd.R_lower (Kd.R_new' (Kd.R_new' ho0 (Kd.R_lt (by (with_reducible repeat (first | apply Kd.R_alloc | apply Kd.R_drewN | apply Kd.R_drew)); exact HO_3.out))) (Kd.R_lt (by (with_reducible repeat (first | apply Kd.R_alloc | apply Kd.R_drewN | apply Kd.R_drew)); exact HO132.out))) (zK (by repeat (first | (with_reducible first | exact HB.out | apply zC | apply zA | apply zB | refine zE ?_ GE116.out) | exact HB.out))))
    have n5_ := Aside0.mk (zM (g := gb116) (o := .cells #[.slice A0_0 l0_0.length c0_0, .string a0_1, .string a0_2, .slice A0_3 l0_3.length c0_3] 25 (0, 0)) (by (with_reducible repeat (first | refine zG ?_ _ | refine zI ?_ | refine zF ?_ _)); exact BK116.out) hb)
    have n6_ := Aside0.mk (zL (by repeat (first | (with_reducible first | exact HB.out | apply zC | apply zA | apply zB | refine zE ?_ GE116.out) | exact HB.out)) hb)
    clear HO_3
    clear HO129
    clear HO132
    clear HO135
    clear BK116
    clear HB
    have HO_3 := n0_
    have HO129 := n1_
    have HO132 := n2_
    have HO135 := n3_
    have HO138 := n4_
    have BK116 := n5_
    have HB := n6_
    clear n0_ n1_ n2_ n3_ n4_ n5_ n6_
    (try clear hb)
    (try clear hb2)
    (try clear hk)
    (try clear hi)
    (try clear ho0)
    refine hK.out _ _ ⟨(zD BK116.out 0).trans rfl, (zD BK116.out 1).trans rfl, (zD BK116.out 2).trans rfl, (zD BK116.out 3).trans rfl⟩ (fun hHeld => ?_)
    clear hK K
    refine norm_ (a' := ?_) ?_ ?_
    rotate_left
    ·
     show Act.put _ (some 34) _ = _
     simp only [Act.put, List.setIfInBounds_toArray, List.set_cons_zero, List.set_cons_succ, i64_w, i32_w]
     rfl
    refine pure_ (i := 9) (N := some 3) (v := ?_) (a' := ?_) #[true, true, true, true, true, true, true, true, true, true] rfl rfl (zP HT_.out (by kernel_rfl)) (fun _ _ _ h => h) (Or.inl ⟨by rfl, ?_⟩) ?_ ?_
    rotate_left
    ·
     intro w'
     go_simp
     with_reducible rfl
    rotate_left
    ·
     simp only [Act.put, List.setIfInBounds_toArray, List.set_cons_zero, List.set_cons_succ, i64_w, i32_w]
     rfl
    refine done_ (done_of HT_.out (by kernel_rfl)) ?_
    have hcz31_0 : w30.cell? ⟨gb116, 0, none⟩ = some (.slice A0_0 l0_0.length c0_0) := (zD BK116.out 0).trans rfl
    have hcz31_1 : w30.cell? ⟨gb116, 1, none⟩ = some (.string a0_1) := (zD BK116.out 1).trans rfl
    have hcz31_2 : w30.cell? ⟨gb116, 2, none⟩ = some (.string a0_2) := (zD BK116.out 2).trans rfl
    have hcz31_3 : w30.cell? ⟨gb116, 3, none⟩ = some (.slice A0_3 l0_3.length c0_3) := (zD BK116.out 3).trans rfl
    have hfz31_0 := zH BK116.out 0
    have hfz31_1 := zH BK116.out 1
    have hfz31_2 := zH BK116.out 2
    have hfz31_3 := zH BK116.out 3
    obtain ⟨Ao32, co32, eo32⟩ := Kd.R_slice HO138.out
    subst eo32
    try go_wp2_with (first | ((with_reducible refine gate_callee (f := 41) rfl ?_); refine goesL_ (some 40) rfl rfl Tryd.func41 (by kernel_rfl) rfl #[.slice Ao32 t136.length co32, .int .u64 (IntKind.u64.wrap ((l0_3.length : Int)))] rfl (by (try simp only [List.map_toArray, List.map_cons, List.map_nil]); first | done | rfl | (simp only [List.length_drop, List.length_take]; rfl)) ?_; (with_reducible refine (wire_Num.calls k1 _ _ t136 (IntKind.u64.wrap ((l0_3.length : Int))) t139 _ ?side1 ?side2 A20.out).mono ?_); (case side1 => repeat (first | exact (Kd.R_reads' HO138.out).2.2 | (with_reducible refine Kd.C_alloc ?_ _) | (with_reducible refine Kd.C_drewN ?_ _) | (with_reducible refine Kd.C_drew ?_))); (case side2 => exact (Kd.R_reads' HO138.out).2.1); rintro e w33 ⟨v140, rfl, ho0, hb⟩; refine ⟨_, rfl, ?_⟩; have n0_ := Aside0.mk (Kd.R_elder' (by (with_reducible repeat (first | apply Kd.R_alloc | apply Kd.R_drewN | apply Kd.R_drew)); exact HO_3.out) (Kd.R_base ho0) hb); have n1_ := Aside0.mk (Kd.V_elder' (by (with_reducible repeat (first | apply Kd.V_alloc | apply Kd.V_drewN | apply Kd.V_drew)); exact HO129.out) (Kd.R_base ho0) hb); have n2_ := Aside0.mk (Kd.R_elder' (by (with_reducible repeat (first | apply Kd.R_alloc | apply Kd.R_drewN | apply Kd.R_drew)); exact HO132.out) (Kd.R_base ho0) hb); have n3_ := Aside0.mk (Kd.V_elder' (by (with_reducible repeat (first | apply Kd.V_alloc | apply Kd.V_drewN | apply Kd.V_drew)); exact HO135.out) (Kd.R_base ho0) hb); have n4_ := Aside0.mk (Kd.R_elder' (by (with_reducible repeat (first | apply Kd.R_alloc | apply Kd.R_drewN | apply Kd.R_drew)); exact HO138.out) (Kd.R_base ho0) hb); have n5_ := Aside0.mk (Kd.R_lower (Kd.R_new' (Kd.R_new' (Kd.R_new' ho0 (Kd.R_lt (by (with_reducible repeat (first | apply Kd.R_alloc | apply Kd.R_drewN | apply Kd.R_drew)); exact HO_3.out))) (Kd.R_lt (by (with_reducible repeat (first | apply Kd.R_alloc | apply Kd.R_drewN | apply Kd.R_drew)); exact HO132.out))) (Kd.R_lt (by (with_reducible repeat (first | apply Kd.R_alloc | apply Kd.R_drewN | apply Kd.R_drew)); exact HO138.out))) (zK (by repeat (first | (with_reducible first | exact HB.out | apply zC | apply zA | apply zB | refine zE ?_ GE116.out) | exact HB.out)))); have n6_ := Aside0.mk (zM (g := gb116) (o := .cells #[.slice A0_0 l0_0.length c0_0, .string a0_1, .string a0_2, .slice A0_3 l0_3.length c0_3] 25 (0, 0)) (by (with_reducible repeat (first | refine zG ?_ _ | refine zI ?_ | refine zF ?_ _)); exact BK116.out) hb); have n7_ := Aside0.mk (zL (by repeat (first | (with_reducible first | exact HB.out | apply zC | apply zA | apply zB | refine zE ?_ GE116.out) | exact HB.out)) hb); clear HO_3; clear HO129; clear HO132; clear HO135; clear HO138; clear BK116; clear HB; have HO_3 := n0_; have HO129 := n1_; have HO132 := n2_; have HO135 := n3_; have HO138 := n4_; have HO141 := n5_; have BK116 := n6_; have HB := n7_; clear n0_ n1_ n2_ n3_ n4_ n5_ n6_ n7_; (try clear hb); (try clear hb2); (try clear hk); (try clear hi); (try clear ho0); have hcz34_0 : w33.cell? ⟨gb116, 0, none⟩ = some (.slice A0_0 l0_0.length c0_0) := (zD BK116.out 0).trans rfl; have hcz34_1 : w33.cell? ⟨gb116, 1, none⟩ = some (.string a0_1) := (zD BK116.out 1).trans rfl; have hcz34_2 : w33.cell? ⟨gb116, 2, none⟩ = some (.string a0_2) := (zD BK116.out 2).trans rfl; have hcz34_3 : w33.cell? ⟨gb116, 3, none⟩ = some (.slice A0_3 l0_3.length c0_3) := (zD BK116.out 3).trans rfl; have hfz34_0 := zH BK116.out 0; have hfz34_1 := zH BK116.out 1; have hfz34_2 := zH BK116.out 2; have hfz34_3 := zH BK116.out 3))
    go_loopg [3, 44] k1 (fun kq v3 v44 w' => ∃ (x3_2 : List Int) (x44_2 : Int), v44 = .int .i64 x44_2 ∧ Aside0 (patch_form.l1 kq x3_2 l0_3 (l0_3.length : Int) x44_2 = some r) ∧ Aside0 (kq ≤ k1) ∧ Aside0 (Kd.R (Kd.int .u8) 5 w' w.heap.size (fun _ => True) v3 x3_2) ∧ Aside0 (w'.heap[gb116]? = some (.cells #[(.slice A0_0 l0_0.length c0_0), .string a0_1, .string a0_2, (.slice A0_3 l0_3.length c0_3)] 25 (0, 0))) ∧ Aside0 (Below w.heap.size w w'))
    case atStart => exact ⟨(t139), (0), (by first | rfl | (simp; done) | (simp [*]; done)), H', ⟨Nat.le_refl _⟩, ⟨by (with_reducible repeat (first | apply Kd.R_alloc | apply Kd.R_drewN | apply Kd.R_drew)); exact Kd.R_mono HO141.out (fun _ hk => trivial)⟩, ⟨by (with_reducible repeat (first | refine zG ?_ _ | refine zI ?_ | refine zF ?_ _)); exact BK116.out⟩, ⟨by repeat (first | (with_reducible first | exact HB.out | apply zC | apply zA | apply zB | refine zE ?_ GE116.out) | exact HB.out)⟩⟩
    case round =>
     clear H'
     try clear p1
     try clear q1
     try clear hx1
     try clear c2
     try clear p2
     try clear c4
     try clear p6
     try clear c7
     try clear c7b0
     try clear c8
     try clear c8b0
     try clear c9
     try clear c9b0
     try clear p12
     try clear q12
     try clear hx12
     try clear c23
     try clear hcz31_0
     try clear hcz31_1
     try clear hcz31_2
     try clear hcz31_3
     try clear hcz34_0
     try clear hcz34_1
     try clear hcz34_2
     try clear hcz34_3
     try clear hcz4_0
     try clear hcz4_1
     try clear hcz4_2
     try clear hcz4_3
     try clear hcz6_0
     try clear hcz6_1
     try clear hcz6_2
     try clear hcz6_3
     try clear hfz31_0
     try clear hfz31_1
     try clear hfz31_2
     try clear hfz31_3
     try clear hfz34_0
     try clear hfz34_1
     try clear hfz34_2
     try clear hfz34_3
     try clear hfz4_0
     try clear hfz4_1
     try clear hfz4_2
     try clear hfz4_3
     try clear hfz6_0
     try clear hfz6_1
     try clear hfz6_2
     try clear hfz6_3
     try clear hx120_0
     try clear p120
     try clear p2
     try clear q120
     obtain ⟨x3_2, x44_2, rfl, HA, HK2, HO_3, BK116, HB⟩ := hrel
     cases gk with
     | zero => exact absurd HA.out (by simp [patch_form.l1])
     | succ k2 =>
      have H := HA.out
      clear HA
      simp only [patch_form.l1] at H
      by_cases c35 : x44_2 < (l0_3.length : Int)
      ·
       rw [if_pos c35] at H
       by_cases cz_ : 0 ≤ x44_2
       · exact absurd c35 (by have := HCS.out; omega)
       ·
        rw [if_neg cz_] at H
        exact absurd H (by simp)
      ·
       rw [if_neg c35] at H
       have c35b0 : decide (x44_2 < (l0_3.length : Int)) = false := decide_eq_false c35
       clear c35
       obtain rfl := Option.some.inj H
       go_wp2
       go_ret
       exact ⟨_, by first | rfl | (simp [zO, zN] <;> rfl) | (simp [*, zO, zN] <;> rfl), by (with_reducible repeat (first | apply Kd.R_alloc | apply Kd.R_drewN | apply Kd.R_drew)); exact HO_3.out, by repeat (first | (with_reducible first | exact HB.out | apply zC | apply zA | apply zB | refine zE ?_ GE116.out) | exact HB.out)⟩
end Go.Proofs.YtembjjombhfglaaDoor.G
