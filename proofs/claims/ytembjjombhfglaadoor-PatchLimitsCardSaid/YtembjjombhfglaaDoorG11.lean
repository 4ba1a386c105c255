import Derived.Test.YtembjjombhfglaaDoorG0
import Derived.Test.YtembjjombhfglaaDoorG1
import Derived.Test.YtembjjombhfglaaDoorG8
import Derived.Test.YtembjjombhfglaaDoorG9
import Derived.Test.YtembjjombhfglaaDoorG10
import Derived.Test.YtembjjombhfglaaDoorGE1
import Derived.Test.YtembjjombhfglaaDoorGE5
import Derived.Test.YtembjjombhfglaaDoorGE7
namespace Go.Proofs.YtembjjombhfglaaDoor.G
open Go.RowKit Go.Proofs.YtembjjombhfglaaDoorW.PrintWords Go.Proofs.YtembjjombhfglaaDoorW.PrintLast Go.Proofs.YtembjjombhfglaaDoorW.PrintMore
attribute [local go_sem] max2_int min2_int max_two min_two max_three min_three max_four min_four
set_option linter.unusedVariables false
set_option linter.unusedSimpArgs false
attribute [local go_sem high] eqA48
def patch_Play.l0 : Nat → List (S50) → List (S48) → Int → Int → Option ((List (S50)))
 | 0, _, _, _, _ => none
 | k + 1, x5, x12, x13, x14 => if x14 < x13 then (if 0 ≤ x14 then (if x14 < (x12.length : Int) then (if (zJ x12 x14).f1 = true then ((tree_Drop.f k x5 ((zJ x12 x14).f0)).bind fun bt326 => (patch_Play.l0 k bt326.1 x12 x13 (wrap64 (x14 + 1)))) else ((tree_Put.f k x5 ((zJ x12 x14).f0) ((zJ x12 x14).f2)).bind fun bt330 => (if bt330.2 = 0 then (patch_Play.l0 k bt330.1 x12 x13 (wrap64 (x14 + 1))) else (patch_Play.l0 k x5 x12 x13 (wrap64 (x14 + 1)))))) else (none)) else (none)) else (some x5)
def patch_Play.f (k : Nat) (l0 : List (S50)) (l1 : List (S48)) : Option ((List (S50))) := (clone_files.f l0).bind fun t321 => (patch_Play.l0 k t321 l1 (l1.length : Int) 0)
set_option maxHeartbeats 8000000 in
set_option maxRecDepth 100000 in
theorem patch_Play.calls (k : Nat) (A0 : Option Addr) (c0 : Nat) (l0 : List (S50)) (A1 : Option Addr) (c1 : Nat) (l1 : List (S48)) (r : List (S50)) (w : World) (hr0 : Kd.C k50 w A0 l0.length l0) (hc0 : l0.length ≤ c0) (hr1 : Kd.C k48 w A1 l1.length l1) (hc1 : l1.length ≤ c1) (h : patch_Play.f k l0 l1 = some r) :
  Calls Tryd.prog 18 #[.slice A0 l0.length c0, .slice A1 l1.length c1] w fun e w' => ∃ v0_ : Value, e = .returned (v0_) ∧ Kd.R k50 50 w' w.heap.size (fun _ => True) v0_ r ∧ Below w.heap.size w w' := by
 have hu48 := Tryd.underlying48
 have hu50 := Tryd.underlying50
 have HR0 := Aside0.mk hr0
 have HC0 := Aside0.mk hc0
 clear hr0 hc0
 have HR1 := Aside0.mk hr1
 have HC1 := Aside0.mk hc1
 clear hr1 hc1
 have HB := Aside0.mk (Below.refl w.heap.size w)
 have H : ((clone_files.f l0).bind fun t321 => (patch_Play.l0 k t321 l1 (l1.length : Int) 0)) = some r := h
 clear h
 replace H := Option.bind_eq_some_iff.mp H
 obtain ⟨t321, A30, H⟩ := H
 replace H : (patch_Play.l0 k t321 l1 (l1.length : Int) 0) = some r := H
 have A3 := Aside0.mk A30
 clear A30
 have H' := Aside0.mk H
 clear H
 go_enter Tryd.func18, Tryd.ntmps18
 go_wp2_with (first | ((with_reducible refine gate_callee (f := 31) rfl ?_); refine goesL_ (some 11) rfl rfl Tryd.func31 (by kernel_rfl) rfl #[.slice A0 l0.length c0] rfl (by (try simp only [List.map_toArray, List.map_cons, List.map_nil]); first | done | rfl | (simp only [List.length_drop, List.length_take]; rfl)) ?_; (with_reducible refine (clone_files.calls _ _ l0 t321 _ ?side1 ?side2 A3.out).mono ?_); (case side1 => repeat (first | exact HR0.out | (with_reducible refine Kd.C_alloc ?_ _) | (with_reducible refine Kd.C_drewN ?_ _) | (with_reducible refine Kd.C_drew ?_))); (case side2 => exact HC0.out); rintro e w4 ⟨v322, rfl, ho0, hb⟩; refine ⟨_, rfl, ?_⟩; have n0_ := Aside0.mk (Kd.R_lower ho0 (zK (by repeat (first | (with_reducible first | exact HB.out | apply zC | apply zA | apply zB) | exact HB.out)))); have n1_ := Aside0.mk (zL (by repeat (first | (with_reducible first | exact HB.out | apply zC | apply zA | apply zB) | exact HB.out)) hb); clear HB; have HO323 := n0_; have HB := n1_; clear n0_ n1_; (try clear hb); (try clear hb2); (try clear hk); (try clear hi); (try clear ho0)))
 go_loopg [5, 14] k (fun kq v5 v14 w' => ∃ (x5_1 : List (S50)) (x14_1 : Int), v14 = .int .i64 x14_1 ∧ Aside0 (patch_Play.l0 kq x5_1 l1 (l1.length : Int) x14_1 = some r) ∧ Aside0 (kq ≤ k) ∧ Aside0 (Kd.R k50 50 w' w.heap.size (fun _ => True) v5 x5_1) ∧ Aside0 (Below w.heap.size w w'))
 case atStart => exact ⟨(t321), (0), (by first | rfl | (simp; done) | (simp [*]; done)), H', ⟨Nat.le_refl _⟩, ⟨by (with_reducible repeat (first | apply Kd.R_alloc | apply Kd.R_drewN | apply Kd.R_drew)); exact HO323.out⟩, ⟨by repeat (first | (with_reducible first | exact HB.out | apply zC | apply zA | apply zB) | exact HB.out)⟩⟩
 case round =>
  clear H'
  try clear c1
  try clear p2
  try clear c3
  obtain ⟨x5_1, x14_1, rfl, HA, HK1, HO_5, HB⟩ := hrel
  cases gk with
  | zero => exact absurd HA.out (by simp [patch_Play.l0])
  | succ k1 =>
   have H := HA.out
   clear HA
   simp only [patch_Play.l0] at H
   by_cases c5 : x14_1 < (l1.length : Int)
   ·
    rw [if_pos c5] at H
    have c5b0 : decide (x14_1 < (l1.length : Int)) = true := decide_eq_true c5
    clear c5
    by_cases c6 : 0 ≤ x14_1
    ·
     rw [if_pos c6] at H
     have c6b0 : decide (0 ≤ x14_1) = true := decide_eq_true c6
     clear c6
     by_cases c7 : x14_1 < (l1.length : Int)
     ·
      rw [if_pos c7] at H
      have c7b0 : decide (x14_1 < (l1.length : Int)) = true := decide_eq_true c7
      clear c7
      obtain ⟨bq8, hbq8⟩ : ∃ b_ : Bool, b_ = ((zJ l1 x14_1).f1) := ⟨_, rfl⟩
      replace H : (if bq8 = true then ((tree_Drop.f k1 x5_1 ((zJ l1 x14_1).f0)).bind fun bt326 => (patch_Play.l0 k1 bt326.1 l1 (l1.length : Int) (wrap64 (x14_1 + 1)))) else ((tree_Put.f k1 x5_1 ((zJ l1 x14_1).f0) ((zJ l1 x14_1).f2)).bind fun bt330 => (if bt330.2 = 0 then (patch_Play.l0 k1 bt330.1 l1 (l1.length : Int) (wrap64 (x14_1 + 1))) else (patch_Play.l0 k1 x5_1 l1 (l1.length : Int) (wrap64 (x14_1 + 1)))))) = some r := by rw [← hbq8] at H; exact H
      have Nbq8 := Aside0.mk hbq8
      clear hbq8
      by_cases c9 : bq8 = true
      ·
       subst c9
       have H1 : ((tree_Drop.f k1 x5_1 ((zJ l1 x14_1).f0)).bind fun bt326 => (patch_Play.l0 k1 bt326.1 l1 (l1.length : Int) (wrap64 (x14_1 + 1)))) = some r := by rw [if_pos rfl] at H; exact H
       clear H
       have H := H1
       clear H1
       replace H := Option.bind_eq_some_iff.mp H
       obtain ⟨⟨t326, t327⟩, A100, H⟩ := H
       replace H : (patch_Play.l0 k1 t326 l1 (l1.length : Int) (wrap64 (x14_1 + 1))) = some r := H
       have A10 := Aside0.mk A100
       clear A100
       have H' := Aside0.mk H
       clear H
       have p324 : 0 ≤ (x14_1 : Int) := of_decide_eq_true (by first | (with_reducible assumption) | assumption)
       have q324 : x14_1 < (l1.length : Int) := of_decide_eq_true (by first | (with_reducible assumption) | assumption)
       obtain ⟨ad324, e324, hx324_0, hx324_1, hx324_2⟩ := at_T48 HR1.out x14_1 p324 q324
       (try rw [← Nbq8.out] at hx324_1)
       cases e324
       replace hx324_0 := (HB.out.cell (World.block_lt_of_cell? w _ hx324_0)).trans hx324_0
       replace hx324_1 := (HB.out.cell (World.block_lt_of_cell? w _ hx324_1)).trans hx324_1
       replace hx324_2 := (HB.out.cell (World.block_lt_of_cell? w _ hx324_2)).trans hx324_2
       replace p324 := eq_true p324
       replace q324 := eq_true q324
       go_wp2_with (first | ((with_reducible refine gate_dst (N := 7) rfl ?_); refine box_event ?hg (N := 7) ?hd (cs := #[.string (⟨#[]⟩ : ByteArray), .bool false, .string (⟨#[]⟩ : ByteArray)]) (t := 48) ?hr ?_; (case hd => rfl); (case hg => rfl); (case hr => first | (go_simp; done) | (go_simp; rfl)); intro gb325 hg w11 hbox hb; have n0_ := Aside0.mk (Kd.R_below (by (with_reducible repeat (first | apply Kd.R_alloc | apply Kd.R_drewN | apply Kd.R_drew)); exact HO_5.out) hb); have n1_ := Aside0.mk (zL (by repeat (first | (with_reducible first | exact HB.out | apply zC | apply zA | apply zB) | exact HB.out)) hb); have n2_ := Aside0.mk (hbox); have n3_ := Aside0.mk ((by rw [hg]; exact (zK (by repeat (first | (with_reducible first | exact HB.out | apply zC | apply zA | apply zB) | exact HB.out))) : w.heap.size ≤ gb325)); have n4_ := Aside0.mk ((by rw [hg]; exact (zK (by repeat (first | (with_reducible first | exact HB.out | apply zC | apply zA | apply zB) | exact HB.out))) : w.heap.size ≤ gb325)); clear HO_5; clear HB; have HO_5 := n0_; have HB := n1_; have BK325 := n2_; have GW325 := n3_; have GE325 := n4_; clear n0_ n1_ n2_ n3_ n4_; clear hb hbox hg; have hcz12_0 : w11.cell? ⟨gb325, 0, none⟩ = some (.string (⟨#[]⟩ : ByteArray)) := (zD BK325.out 0).trans rfl; have hcz12_1 : w11.cell? ⟨gb325, 1, none⟩ = some (.bool false) := (zD BK325.out 1).trans rfl; have hcz12_2 : w11.cell? ⟨gb325, 2, none⟩ = some (.string (⟨#[]⟩ : ByteArray)) := (zD BK325.out 2).trans rfl; have hfz12_0 := zH BK325.out 0; have hfz12_1 := zH BK325.out 1; have hfz12_2 := zH BK325.out 2; obtain ⟨Ao13, co13, eo13⟩ := Kd.R_slice HO_5.out; subst eo13) | ((with_reducible refine gate_callee (f := 32) rfl ?_); refine goesL_ (some 24) rfl rfl Tryd.func32 (by kernel_rfl) rfl #[.slice Ao13 x5_1.length co13, .string ((zJ l1 x14_1).f0)] rfl (by (try simp only [List.map_toArray, List.map_cons, List.map_nil]); first | done | rfl | (simp only [List.length_drop, List.length_take]; rfl)) ?_; (with_reducible refine (tree_Drop.calls k1 _ _ x5_1 ((zJ l1 x14_1).f0) t326 t327 _ ?side1 ?side2 A10.out).mono ?_); (case side1 => refine (Kd.R_reads' (e := 50) (base := w.heap.size) (ok := fun k_ => True) (n := x5_1.length) (c := co13) ?_).2.2; exact (by (with_reducible repeat (first | apply Kd.R_alloc | apply Kd.R_drewN | apply Kd.R_drew)); exact (Kd.R_mono (Kd.R_far (p := ⟨gb325, 2, none⟩) (Kd.R_far (p := ⟨gb325, 1, none⟩) (Kd.R_far (p := ⟨gb325, 0, none⟩) (Kd.R_types HO_5.out BK325.out (by decide)) (fun _ hk => hk.2) (.string ((zJ l1 x14_1).f0))) (fun _ hk => hk.2) (.bool true)) (fun _ hk => hk.2) (.string ((zJ l1 x14_1).f2))) (fun _ h_ => h_.1)))); (case side2 => exact (Kd.R_reads' HO_5.out).2.1); rintro e w14 ⟨v328, rfl, ho0, hb⟩; refine ⟨_, rfl, ?_⟩; have n0_ := Aside0.mk (Kd.R_elder' (by (with_reducible repeat (first | apply Kd.R_alloc | apply Kd.R_drewN | apply Kd.R_drew)); exact (Kd.R_mono (Kd.R_far (p := ⟨gb325, 2, none⟩) (Kd.R_far (p := ⟨gb325, 1, none⟩) (Kd.R_far (p := ⟨gb325, 0, none⟩) (Kd.R_types HO_5.out BK325.out (by decide)) (fun _ hk => hk.2) (.string ((zJ l1 x14_1).f0))) (fun _ hk => hk.2) (.bool true)) (fun _ hk => hk.2) (.string ((zJ l1 x14_1).f2))) (fun _ h_ => h_.1))) (Kd.R_base ho0) hb); have n1_ := Aside0.mk (Kd.R_lower (Kd.R_new' ho0 (Kd.R_lt (by (with_reducible repeat (first | apply Kd.R_alloc | apply Kd.R_drewN | apply Kd.R_drew)); exact (Kd.R_mono (Kd.R_far (p := ⟨gb325, 2, none⟩) (Kd.R_far (p := ⟨gb325, 1, none⟩) (Kd.R_far (p := ⟨gb325, 0, none⟩) (Kd.R_types HO_5.out BK325.out (by decide)) (fun _ hk => hk.2) (.string ((zJ l1 x14_1).f0))) (fun _ hk => hk.2) (.bool true)) (fun _ hk => hk.2) (.string ((zJ l1 x14_1).f2))) (fun _ h_ => h_.1))))) (zK (by repeat (first | (with_reducible first | exact HB.out | apply zC | apply zA | apply zB | refine zE ?_ GE325.out) | exact HB.out)))); have n2_ := Aside0.mk (zM (g := gb325) (o := .cells #[.string ((zJ l1 x14_1).f0), .bool true, .string ((zJ l1 x14_1).f2)] 48 (0, 0)) (by (with_reducible repeat (first | refine zG ?_ _ | refine zI ?_ | refine zF ?_ _)); refine blk_put (cs := #[.string ((zJ l1 x14_1).f0), .bool true, .string (⟨#[]⟩ : ByteArray)]) ?_ 2 _ rfl; (with_reducible repeat (first | refine zG ?_ _ | refine zI ?_ | refine zF ?_ _)); refine blk_put (cs := #[.string ((zJ l1 x14_1).f0), .bool false, .string (⟨#[]⟩ : ByteArray)]) ?_ 1 _ rfl; (with_reducible repeat (first | refine zG ?_ _ | refine zI ?_ | refine zF ?_ _)); refine blk_put (cs := #[.string (⟨#[]⟩ : ByteArray), .bool false, .string (⟨#[]⟩ : ByteArray)]) ?_ 0 _ rfl; (with_reducible repeat (first | refine zG ?_ _ | refine zI ?_ | refine zF ?_ _)); exact BK325.out) hb); have n3_ := Aside0.mk (zL (by repeat (first | (with_reducible first | exact HB.out | apply zC | apply zA | apply zB | refine zE ?_ GE325.out) | exact HB.out)) hb); clear HO_5; clear BK325; clear HB; have HO_5 := n0_; have HO329 := n1_; have BK325 := n2_; have HB := n3_; clear n0_ n1_ n2_ n3_; (try clear hb); (try clear hb2); (try clear hk); (try clear hi); (try clear ho0)))
       go_roundg k1
       case measure => have := HK1.out; omega
       case rel => exact ⟨(t326), (wrap64 (x14_1 + 1)), (by first | rfl | (simp; done) | (simp [*]; done)), H', ⟨by have := HK1.out; omega⟩, ⟨by (with_reducible repeat (first | apply Kd.R_alloc | apply Kd.R_drewN | apply Kd.R_drew)); exact Kd.R_mono HO329.out (fun _ hk => trivial)⟩, ⟨by repeat (first | (with_reducible first | exact HB.out | apply zC | apply zA | apply zB | refine zE ?_ GE325.out) | exact HB.out)⟩⟩
      ·
       replace c9 := Bool.eq_false_iff.mpr c9
       subst c9
       have H1 : ((tree_Put.f k1 x5_1 ((zJ l1 x14_1).f0) ((zJ l1 x14_1).f2)).bind fun bt330 => (if bt330.2 = 0 then (patch_Play.l0 k1 bt330.1 l1 (l1.length : Int) (wrap64 (x14_1 + 1))) else (patch_Play.l0 k1 x5_1 l1 (l1.length : Int) (wrap64 (x14_1 + 1))))) = some r := by rw [if_neg (show ¬ (false = true) by decide)] at H; exact H
       clear H
       have H := H1
       clear H1
       replace H := Option.bind_eq_some_iff.mp H
       obtain ⟨⟨t330, t333⟩, A150, H⟩ := H
       replace H : (if t333 = 0 then (patch_Play.l0 k1 t330 l1 (l1.length : Int) (wrap64 (x14_1 + 1))) else (patch_Play.l0 k1 x5_1 l1 (l1.length : Int) (wrap64 (x14_1 + 1)))) = some r := H
       have A15 := Aside0.mk A150
       clear A150
       by_cases c16 : t333 = 0
       ·
        rw [if_pos c16] at H
        have c16b0 : (t333 == 0) = true := beq_iff_eq.mpr c16
        have c16b1 : (t333 != 0) = false := bne_eq_false_iff_eq.mpr c16
        clear c16
        have H' := Aside0.mk H
        clear H
        have p324 : 0 ≤ (x14_1 : Int) := of_decide_eq_true (by first | (with_reducible assumption) | assumption)
        have q324 : x14_1 < (l1.length : Int) := of_decide_eq_true (by first | (with_reducible assumption) | assumption)
        obtain ⟨ad324, e324, hx324_0, hx324_1, hx324_2⟩ := at_T48 HR1.out x14_1 p324 q324
        (try rw [← Nbq8.out] at hx324_1)
        cases e324
        replace hx324_0 := (HB.out.cell (World.block_lt_of_cell? w _ hx324_0)).trans hx324_0
        replace hx324_1 := (HB.out.cell (World.block_lt_of_cell? w _ hx324_1)).trans hx324_1
        replace hx324_2 := (HB.out.cell (World.block_lt_of_cell? w _ hx324_2)).trans hx324_2
        replace p324 := eq_true p324
        replace q324 := eq_true q324
        go_wp2_with (first | ((with_reducible refine gate_dst (N := 7) rfl ?_); refine box_event ?hg (N := 7) ?hd (cs := #[.string (⟨#[]⟩ : ByteArray), .bool false, .string (⟨#[]⟩ : ByteArray)]) (t := 48) ?hr ?_; (case hd => rfl); (case hg => rfl); (case hr => first | (go_simp; done) | (go_simp; rfl)); intro gb325 hg w17 hbox hb; have n0_ := Aside0.mk (Kd.R_below (by (with_reducible repeat (first | apply Kd.R_alloc | apply Kd.R_drewN | apply Kd.R_drew)); exact HO_5.out) hb); have n1_ := Aside0.mk (zL (by repeat (first | (with_reducible first | exact HB.out | apply zC | apply zA | apply zB) | exact HB.out)) hb); have n2_ := Aside0.mk (hbox); have n3_ := Aside0.mk ((by rw [hg]; exact (zK (by repeat (first | (with_reducible first | exact HB.out | apply zC | apply zA | apply zB) | exact HB.out))) : w.heap.size ≤ gb325)); have n4_ := Aside0.mk ((by rw [hg]; exact (zK (by repeat (first | (with_reducible first | exact HB.out | apply zC | apply zA | apply zB) | exact HB.out))) : w.heap.size ≤ gb325)); clear HO_5; clear HB; have HO_5 := n0_; have HB := n1_; have BK325 := n2_; have GW325 := n3_; have GE325 := n4_; clear n0_ n1_ n2_ n3_ n4_; clear hb hbox hg; have hcz18_0 : w17.cell? ⟨gb325, 0, none⟩ = some (.string (⟨#[]⟩ : ByteArray)) := (zD BK325.out 0).trans rfl; have hcz18_1 : w17.cell? ⟨gb325, 1, none⟩ = some (.bool false) := (zD BK325.out 1).trans rfl; have hcz18_2 : w17.cell? ⟨gb325, 2, none⟩ = some (.string (⟨#[]⟩ : ByteArray)) := (zD BK325.out 2).trans rfl; have hfz18_0 := zH BK325.out 0; have hfz18_1 := zH BK325.out 1; have hfz18_2 := zH BK325.out 2; obtain ⟨Ao19, co19, eo19⟩ := Kd.R_slice HO_5.out; subst eo19) | ((with_reducible refine gate_callee (f := 33) rfl ?_); refine goesL_ (some 34) rfl rfl Tryd.func33 (by kernel_rfl) rfl #[.slice Ao19 x5_1.length co19, .agg #[.string ((zJ l1 x14_1).f0), .string ((zJ l1 x14_1).f2)]] rfl (by (try simp only [List.map_toArray, List.map_cons, List.map_nil]); first | done | rfl | (simp only [List.length_drop, List.length_take]; rfl)) ?_; (with_reducible refine (tree_Put.calls k1 _ _ x5_1 ((zJ l1 x14_1).f0) ((zJ l1 x14_1).f2) t330 t333 _ ?side1 ?side2 A15.out).mono ?_); (case side1 => refine (Kd.R_reads' (e := 50) (base := w.heap.size) (ok := fun k_ => True) (n := x5_1.length) (c := co19) ?_).2.2; exact (by (with_reducible repeat (first | apply Kd.R_alloc | apply Kd.R_drewN | apply Kd.R_drew)); exact (Kd.R_mono (Kd.R_far (p := ⟨gb325, 2, none⟩) (Kd.R_far (p := ⟨gb325, 1, none⟩) (Kd.R_far (p := ⟨gb325, 0, none⟩) (Kd.R_types HO_5.out BK325.out (by decide)) (fun _ hk => hk.2) (.string ((zJ l1 x14_1).f0))) (fun _ hk => hk.2) (.bool false)) (fun _ hk => hk.2) (.string ((zJ l1 x14_1).f2))) (fun _ h_ => h_.1)))); (case side2 => exact (Kd.R_reads' HO_5.out).2.1); rintro e w20 ⟨v331, rfl, ho0, hb⟩; refine ⟨_, rfl, ?_⟩; have n0_ := Aside0.mk (Kd.R_elder' (by (with_reducible repeat (first | apply Kd.R_alloc | apply Kd.R_drewN | apply Kd.R_drew)); exact (Kd.R_mono (Kd.R_far (p := ⟨gb325, 2, none⟩) (Kd.R_far (p := ⟨gb325, 1, none⟩) (Kd.R_far (p := ⟨gb325, 0, none⟩) (Kd.R_types HO_5.out BK325.out (by decide)) (fun _ hk => hk.2) (.string ((zJ l1 x14_1).f0))) (fun _ hk => hk.2) (.bool false)) (fun _ hk => hk.2) (.string ((zJ l1 x14_1).f2))) (fun _ h_ => h_.1))) (Kd.R_base ho0) hb); have n1_ := Aside0.mk (Kd.R_lower (Kd.R_new' ho0 (Kd.R_lt (by (with_reducible repeat (first | apply Kd.R_alloc | apply Kd.R_drewN | apply Kd.R_drew)); exact (Kd.R_mono (Kd.R_far (p := ⟨gb325, 2, none⟩) (Kd.R_far (p := ⟨gb325, 1, none⟩) (Kd.R_far (p := ⟨gb325, 0, none⟩) (Kd.R_types HO_5.out BK325.out (by decide)) (fun _ hk => hk.2) (.string ((zJ l1 x14_1).f0))) (fun _ hk => hk.2) (.bool false)) (fun _ hk => hk.2) (.string ((zJ l1 x14_1).f2))) (fun _ h_ => h_.1))))) (zK (by repeat (first | (with_reducible first | exact HB.out | apply zC | apply zA | apply zB | refine zE ?_ GE325.out) | exact HB.out)))); have n2_ := Aside0.mk (zM (g := gb325) (o := .cells #[.string ((zJ l1 x14_1).f0), .bool false, .string ((zJ l1 x14_1).f2)] 48 (0, 0)) (by (with_reducible repeat (first | refine zG ?_ _ | refine zI ?_ | refine zF ?_ _)); refine blk_put (cs := #[.string ((zJ l1 x14_1).f0), .bool false, .string (⟨#[]⟩ : ByteArray)]) ?_ 2 _ rfl; (with_reducible repeat (first | refine zG ?_ _ | refine zI ?_ | refine zF ?_ _)); refine blk_put (cs := #[.string ((zJ l1 x14_1).f0), .bool false, .string (⟨#[]⟩ : ByteArray)]) ?_ 1 _ rfl; (with_reducible repeat (first | refine zG ?_ _ | refine zI ?_ | refine zF ?_ _)); refine blk_put (cs := #[.string (⟨#[]⟩ : ByteArray), .bool false, .string (⟨#[]⟩ : ByteArray)]) ?_ 0 _ rfl; (with_reducible repeat (first | refine zG ?_ _ | refine zI ?_ | refine zF ?_ _)); exact BK325.out) hb); have n3_ := Aside0.mk (zL (by repeat (first | (with_reducible first | exact HB.out | apply zC | apply zA | apply zB | refine zE ?_ GE325.out) | exact HB.out)) hb); clear HO_5; clear BK325; clear HB; have HO_5 := n0_; have HO332 := n1_; have BK325 := n2_; have HB := n3_; clear n0_ n1_ n2_ n3_; (try clear hb); (try clear hb2); (try clear hk); (try clear hi); (try clear ho0)))
        go_roundg k1
        case measure => have := HK1.out; omega
        case rel => exact ⟨(t330), (wrap64 (x14_1 + 1)), (by first | rfl | (simp; done) | (simp [*]; done)), H', ⟨by have := HK1.out; omega⟩, ⟨by (with_reducible repeat (first | apply Kd.R_alloc | apply Kd.R_drewN | apply Kd.R_drew)); exact Kd.R_mono HO332.out (fun _ hk => trivial)⟩, ⟨by repeat (first | (with_reducible first | exact HB.out | apply zC | apply zA | apply zB | refine zE ?_ GE325.out) | exact HB.out)⟩⟩
       ·
        rw [if_neg c16] at H
        have c16b0 : (t333 == 0) = false := beq_eq_false_iff_ne.mpr c16
        have c16b1 : (t333 != 0) = true := bne_iff_ne.mpr c16
        have H' := Aside0.mk H
        clear H
        have p324 : 0 ≤ (x14_1 : Int) := of_decide_eq_true (by first | (with_reducible assumption) | assumption)
        have q324 : x14_1 < (l1.length : Int) := of_decide_eq_true (by first | (with_reducible assumption) | assumption)
        obtain ⟨ad324, e324, hx324_0, hx324_1, hx324_2⟩ := at_T48 HR1.out x14_1 p324 q324
        (try rw [← Nbq8.out] at hx324_1)
        cases e324
        replace hx324_0 := (HB.out.cell (World.block_lt_of_cell? w _ hx324_0)).trans hx324_0
        replace hx324_1 := (HB.out.cell (World.block_lt_of_cell? w _ hx324_1)).trans hx324_1
        replace hx324_2 := (HB.out.cell (World.block_lt_of_cell? w _ hx324_2)).trans hx324_2
        replace p324 := eq_true p324
        replace q324 := eq_true q324
        go_wp2_with (first | ((with_reducible refine gate_dst (N := 7) rfl ?_); refine box_event ?hg (N := 7) ?hd (cs := #[.string (⟨#[]⟩ : ByteArray), .bool false, .string (⟨#[]⟩ : ByteArray)]) (t := 48) ?hr ?_; (case hd => rfl); (case hg => rfl); (case hr => first | (go_simp; done) | (go_simp; rfl)); intro gb325 hg w21 hbox hb; have n0_ := Aside0.mk (Kd.R_below (by (with_reducible repeat (first | apply Kd.R_alloc | apply Kd.R_drewN | apply Kd.R_drew)); exact HO_5.out) hb); have n1_ := Aside0.mk (zL (by repeat (first | (with_reducible first | exact HB.out | apply zC | apply zA | apply zB) | exact HB.out)) hb); have n2_ := Aside0.mk (hbox); have n3_ := Aside0.mk ((by rw [hg]; exact (zK (by repeat (first | (with_reducible first | exact HB.out | apply zC | apply zA | apply zB) | exact HB.out))) : w.heap.size ≤ gb325)); have n4_ := Aside0.mk ((by rw [hg]; exact (zK (by repeat (first | (with_reducible first | exact HB.out | apply zC | apply zA | apply zB) | exact HB.out))) : w.heap.size ≤ gb325)); clear HO_5; clear HB; have HO_5 := n0_; have HB := n1_; have BK325 := n2_; have GW325 := n3_; have GE325 := n4_; clear n0_ n1_ n2_ n3_ n4_; clear hb hbox hg; have hcz22_0 : w21.cell? ⟨gb325, 0, none⟩ = some (.string (⟨#[]⟩ : ByteArray)) := (zD BK325.out 0).trans rfl; have hcz22_1 : w21.cell? ⟨gb325, 1, none⟩ = some (.bool false) := (zD BK325.out 1).trans rfl; have hcz22_2 : w21.cell? ⟨gb325, 2, none⟩ = some (.string (⟨#[]⟩ : ByteArray)) := (zD BK325.out 2).trans rfl; have hfz22_0 := zH BK325.out 0; have hfz22_1 := zH BK325.out 1; have hfz22_2 := zH BK325.out 2; obtain ⟨Ao23, co23, eo23⟩ := Kd.R_slice HO_5.out; subst eo23) | ((with_reducible refine gate_callee (f := 33) rfl ?_); refine goesL_ (some 34) rfl rfl Tryd.func33 (by kernel_rfl) rfl #[.slice Ao23 x5_1.length co23, .agg #[.string ((zJ l1 x14_1).f0), .string ((zJ l1 x14_1).f2)]] rfl (by (try simp only [List.map_toArray, List.map_cons, List.map_nil]); first | done | rfl | (simp only [List.length_drop, List.length_take]; rfl)) ?_; (with_reducible refine (tree_Put.calls k1 _ _ x5_1 ((zJ l1 x14_1).f0) ((zJ l1 x14_1).f2) t330 t333 _ ?side1 ?side2 A15.out).mono ?_); (case side1 => refine (Kd.R_reads' (e := 50) (base := w.heap.size) (ok := fun k_ => True) (n := x5_1.length) (c := co23) ?_).2.2; exact (by (with_reducible repeat (first | apply Kd.R_alloc | apply Kd.R_drewN | apply Kd.R_drew)); exact (Kd.R_mono (Kd.R_far (p := ⟨gb325, 2, none⟩) (Kd.R_far (p := ⟨gb325, 1, none⟩) (Kd.R_far (p := ⟨gb325, 0, none⟩) (Kd.R_types HO_5.out BK325.out (by decide)) (fun _ hk => hk.2) (.string ((zJ l1 x14_1).f0))) (fun _ hk => hk.2) (.bool false)) (fun _ hk => hk.2) (.string ((zJ l1 x14_1).f2))) (fun _ h_ => h_.1)))); (case side2 => exact (Kd.R_reads' HO_5.out).2.1); rintro e w24 ⟨v331, rfl, ho0, hb⟩; refine ⟨_, rfl, ?_⟩; have n0_ := Aside0.mk (Kd.R_elder' (by (with_reducible repeat (first | apply Kd.R_alloc | apply Kd.R_drewN | apply Kd.R_drew)); exact (Kd.R_mono (Kd.R_far (p := ⟨gb325, 2, none⟩) (Kd.R_far (p := ⟨gb325, 1, none⟩) (Kd.R_far (p := ⟨gb325, 0, none⟩) (Kd.R_types HO_5.out BK325.out (by decide)) (fun _ hk => hk.2) (.string ((zJ l1 x14_1).f0))) (fun _ hk => hk.2) (.bool false)) (fun _ hk => hk.2) (.string ((zJ l1 x14_1).f2))) (fun _ h_ => h_.1))) (Kd.R_base ho0) hb); have n1_ := Aside0.mk (Kd.R_lower (Kd.R_new' ho0 (Kd.R_lt (by (with_reducible repeat (first | apply Kd.R_alloc | apply Kd.R_drewN | apply Kd.R_drew)); exact (Kd.R_mono (Kd.R_far (p := ⟨gb325, 2, none⟩) (Kd.R_far (p := ⟨gb325, 1, none⟩) (Kd.R_far (p := ⟨gb325, 0, none⟩) (Kd.R_types HO_5.out BK325.out (by decide)) (fun _ hk => hk.2) (.string ((zJ l1 x14_1).f0))) (fun _ hk => hk.2) (.bool false)) (fun _ hk => hk.2) (.string ((zJ l1 x14_1).f2))) (fun _ h_ => h_.1))))) (zK (by repeat (first | (with_reducible first | exact HB.out | apply zC | apply zA | apply zB | refine zE ?_ GE325.out) | exact HB.out)))); have n2_ := Aside0.mk (zM (g := gb325) (o := .cells #[.string ((zJ l1 x14_1).f0), .bool false, .string ((zJ l1 x14_1).f2)] 48 (0, 0)) (by (with_reducible repeat (first | refine zG ?_ _ | refine zI ?_ | refine zF ?_ _)); refine blk_put (cs := #[.string ((zJ l1 x14_1).f0), .bool false, .string (⟨#[]⟩ : ByteArray)]) ?_ 2 _ rfl; (with_reducible repeat (first | refine zG ?_ _ | refine zI ?_ | refine zF ?_ _)); refine blk_put (cs := #[.string ((zJ l1 x14_1).f0), .bool false, .string (⟨#[]⟩ : ByteArray)]) ?_ 1 _ rfl; (with_reducible repeat (first | refine zG ?_ _ | refine zI ?_ | refine zF ?_ _)); refine blk_put (cs := #[.string (⟨#[]⟩ : ByteArray), .bool false, .string (⟨#[]⟩ : ByteArray)]) ?_ 0 _ rfl; (with_reducible repeat (first | refine zG ?_ _ | refine zI ?_ | refine zF ?_ _)); exact BK325.out) hb); have n3_ := Aside0.mk (zL (by repeat (first | (with_reducible first | exact HB.out | apply zC | apply zA | apply zB | refine zE ?_ GE325.out) | exact HB.out)) hb); clear HO_5; clear BK325; clear HB; have HO_5 := n0_; have HO332 := n1_; have BK325 := n2_; have HB := n3_; clear n0_ n1_ n2_ n3_; (try clear hb); (try clear hb2); (try clear hk); (try clear hi); (try clear ho0)))
        go_roundg k1
        case measure => have := HK1.out; omega
        case rel => exact ⟨(x5_1), (wrap64 (x14_1 + 1)), (by first | rfl | (simp; done) | (simp [*]; done)), H', ⟨by have := HK1.out; omega⟩, ⟨by (with_reducible repeat (first | apply Kd.R_alloc | apply Kd.R_drewN | apply Kd.R_drew)); exact Kd.R_mono HO_5.out (fun _ hk => trivial)⟩, ⟨by repeat (first | (with_reducible first | exact HB.out | apply zC | apply zA | apply zB | refine zE ?_ GE325.out) | exact HB.out)⟩⟩
     ·
      rw [if_neg c7] at H
      exact absurd H (by simp)
    ·
     rw [if_neg c6] at H
     exact absurd H (by simp)
   ·
    rw [if_neg c5] at H
    have c5b0 : decide (x14_1 < (l1.length : Int)) = false := decide_eq_false c5
    clear c5
    obtain rfl := Option.some.inj H
    go_wp2
    go_ret
    exact ⟨_, by first | rfl | (simp [zO, zN] <;> rfl) | (simp [*, zO, zN] <;> rfl), by (with_reducible repeat (first | apply Kd.R_alloc | apply Kd.R_drewN | apply Kd.R_drew)); exact HO_5.out, by repeat (first | (with_reducible first | exact HB.out | apply zC | apply zA | apply zB) | exact HB.out)⟩
def grapevineref12_Changes.l0 : Nat → List (S48) → List (S48) → Int → Option (Bool)
 | 0, _, _, _ => none
 | k + 1, x0, x1, x5 => if x5 < (x0.length : Int) then (if 0 ≤ x5 then (if x5 < (x1.length : Int) then (if (!((((zJ x0 x5).f0).toList) == (((zJ x1 x5).f0).toList)) || (!(((zJ x0 x5).f1) == ((zJ x1 x5).f1)) || (!((((zJ x0 x5).f2).toList) == (((zJ x1 x5).f2).toList))))) = true then (some false) else (grapevineref12_Changes.l0 k x0 x1 (wrap64 (x5 + 1)))) else (none)) else (none)) else (some true)
def grapevineref12_Changes.f (k : Nat) (l0 : List (S48)) (l1 : List (S48)) : Option (Bool) := if (l0.length : Int) = (l1.length : Int) then (grapevineref12_Changes.l0 k l0 l1 0) else (some false)
set_option maxHeartbeats 8000000 in
set_option maxRecDepth 100000 in
theorem grapevineref12_Changes.calls (k : Nat) (A0 : Option Addr) (c0 : Nat) (l0 : List (S48)) (A1 : Option Addr) (c1 : Nat) (l1 : List (S48)) (r : Bool) (w : World) (hr0 : Kd.C k48 w A0 l0.length l0) (hc0 : l0.length ≤ c0) (hr1 : Kd.C k48 w A1 l1.length l1) (hc1 : l1.length ≤ c1) (h : grapevineref12_Changes.f k l0 l1 = some r) :
  Calls Tryd.prog 21 #[.slice A0 l0.length c0, .slice A1 l1.length c1] w fun e w' => e = .returned (.bool r) ∧ Drawn0 w w' := by
 have hu48 := Tryd.underlying48
 have HR0 := Aside0.mk hr0
 have HC0 := Aside0.mk hc0
 clear hr0 hc0
 have HR1 := Aside0.mk hr1
 have HC1 := Aside0.mk hc1
 clear hr1 hc1
 have H : (if (l0.length : Int) = (l1.length : Int) then (grapevineref12_Changes.l0 k l0 l1 0) else (some false)) = some r := h
 clear h
 by_cases c3 : (l0.length : Int) = (l1.length : Int)
 ·
  rw [if_pos c3] at H
  have c3b0 : ((l0.length : Int) == (l1.length : Int)) = true := beq_iff_eq.mpr c3
  have c3b1 : ((l0.length : Int) != (l1.length : Int)) = false := bne_eq_false_iff_eq.mpr c3
  have c3b2 : (l0.length == l1.length) = true := by first | simpa using c3 | (simp at c3 ⊢; omega)
  clear c3
  have H' := Aside0.mk H
  clear H
  go_enter Tryd.func21, Tryd.ntmps21
  go_wp2
  repeat (go_quiet (fail); try go_wp2)
  go_loopg [5] k (fun kq v5 w' => ∃ (x5_1 : Int), v5 = .int .i64 x5_1 ∧ Aside0 (grapevineref12_Changes.l0 kq l0 l1 x5_1 = some r) ∧ Aside0 (kq ≤ k) ∧ Drawn0 w w')
  case atStart => exact ⟨(0), (by first | rfl | (simp; done) | (simp [*]; done)), H', ⟨Nat.le_refl _⟩, by repeat (first | exact Drawn0.refl _ | apply Drawn0.step)⟩
  case round =>
   clear H'
   try clear c1
   try clear c2
   try clear p2
   try clear c3
   try clear c3b0
   try clear c3b1
   try clear c3b2
   obtain ⟨x5_1, rfl, HA, HK1, ⟨m1, rfl⟩⟩ := hrel
   cases gk with
   | zero => exact absurd HA.out (by simp [grapevineref12_Changes.l0])
   | succ k1 =>
    have H := HA.out
    clear HA
    simp only [grapevineref12_Changes.l0] at H
    by_cases c4 : x5_1 < (l0.length : Int)
    ·
     rw [if_pos c4] at H
     have c4b0 : decide (x5_1 < (l0.length : Int)) = true := decide_eq_true c4
     clear c4
     by_cases c5 : 0 ≤ x5_1
     ·
      rw [if_pos c5] at H
      have c5b0 : decide (0 ≤ x5_1) = true := decide_eq_true c5
      clear c5
      by_cases c6 : x5_1 < (l1.length : Int)
      ·
       rw [if_pos c6] at H
       have c6b0 : decide (x5_1 < (l1.length : Int)) = true := decide_eq_true c6
       clear c6
       by_cases c7 : (!((((zJ l0 x5_1).f0).toList) == (((zJ l1 x5_1).f0).toList)) || (!(((zJ l0 x5_1).f1) == ((zJ l1 x5_1).f1)) || (!((((zJ l0 x5_1).f2).toList) == (((zJ l1 x5_1).f2).toList))))) = true
       ·
        rw [if_pos c7] at H
        have c7b0 : (!((((zJ l0 x5_1).f0).toList) == (((zJ l1 x5_1).f0).toList)) || (!(((zJ l0 x5_1).f1) == ((zJ l1 x5_1).f1)) || (!((((zJ l0 x5_1).f2).toList) == (((zJ l1 x5_1).f2).toList))))) = true := c7
        clear c7
        obtain rfl := Option.some.inj H
        have p334 : 0 ≤ (x5_1 : Int) := of_decide_eq_true (by first | (with_reducible assumption) | assumption)
        have q334 : x5_1 < (l0.length : Int) := of_decide_eq_true (by first | (with_reducible assumption) | assumption)
        obtain ⟨ad334, e334, hx334_0, hx334_1, hx334_2⟩ := at_T48 HR0.out x5_1 p334 q334
        cases e334
        replace p334 := eq_true p334
        replace q334 := eq_true q334
        have p335 : 0 ≤ (x5_1 : Int) := of_decide_eq_true (by first | (with_reducible assumption) | assumption)
        have q335 : x5_1 < (l1.length : Int) := of_decide_eq_true (by first | (with_reducible assumption) | assumption)
        obtain ⟨ad335, e335, hx335_0, hx335_1, hx335_2⟩ := at_T48 HR1.out x5_1 p335 q335
        cases e335
        replace p335 := eq_true p335
        replace q335 := eq_true q335
        go_wp2
        repeat (go_quiet (fail); try go_wp2)
        go_ret
        exact ⟨by first | rfl | (simp; done) | (simp [*]; done), by repeat (first | exact Drawn0.refl _ | apply Drawn0.step)⟩
       ·
        rw [if_neg c7] at H
        have c7b0 : (!((((zJ l0 x5_1).f0).toList) == (((zJ l1 x5_1).f0).toList)) || (!(((zJ l0 x5_1).f1) == ((zJ l1 x5_1).f1)) || (!((((zJ l0 x5_1).f2).toList) == (((zJ l1 x5_1).f2).toList))))) = false := by simpa using c7
        clear c7
        have H' := Aside0.mk H
        clear H
        have p334 : 0 ≤ (x5_1 : Int) := of_decide_eq_true (by first | (with_reducible assumption) | assumption)
        have q334 : x5_1 < (l0.length : Int) := of_decide_eq_true (by first | (with_reducible assumption) | assumption)
        obtain ⟨ad334, e334, hx334_0, hx334_1, hx334_2⟩ := at_T48 HR0.out x5_1 p334 q334
        cases e334
        replace p334 := eq_true p334
        replace q334 := eq_true q334
        have p335 : 0 ≤ (x5_1 : Int) := of_decide_eq_true (by first | (with_reducible assumption) | assumption)
        have q335 : x5_1 < (l1.length : Int) := of_decide_eq_true (by first | (with_reducible assumption) | assumption)
        obtain ⟨ad335, e335, hx335_0, hx335_1, hx335_2⟩ := at_T48 HR1.out x5_1 p335 q335
        cases e335
        replace p335 := eq_true p335
        replace q335 := eq_true q335
        go_wp2
        repeat (go_quiet (fail); try go_wp2)
        go_roundg k1
        case measure => have := HK1.out; omega
        case rel => exact ⟨(wrap64 (x5_1 + 1)), (by first | rfl | (simp; done) | (simp [*]; done)), H', ⟨by have := HK1.out; omega⟩, by repeat (first | exact Drawn0.refl _ | apply Drawn0.step)⟩
      ·
       rw [if_neg c6] at H
       exact absurd H (by simp)
     ·
      rw [if_neg c5] at H
      exact absurd H (by simp)
    ·
     rw [if_neg c4] at H
     have c4b0 : decide (x5_1 < (l0.length : Int)) = false := decide_eq_false c4
     clear c4
     obtain rfl := Option.some.inj H
     go_wp2
     repeat (go_quiet (fail); try go_wp2)
     go_ret
     exact ⟨by first | rfl | (simp; done) | (simp [*]; done), by repeat (first | exact Drawn0.refl _ | apply Drawn0.step)⟩
 ·
  rw [if_neg c3] at H
  have c3b0 : ((l0.length : Int) == (l1.length : Int)) = false := beq_eq_false_iff_ne.mpr c3
  have c3b1 : ((l0.length : Int) != (l1.length : Int)) = true := bne_iff_ne.mpr c3
  have c3b2 : (l0.length == l1.length) = false := by first | simpa using c3 | (simp at c3 ⊢; omega)
  obtain rfl := Option.some.inj H
  go_enter Tryd.func21, Tryd.ntmps21
  go_wp2
  repeat (go_quiet (fail); try go_wp2)
  go_ret
  exact ⟨by first | rfl | (simp; done) | (simp [*]; done), by repeat (first | exact Drawn0.refl _ | apply Drawn0.step)⟩
def grapevinelaw12_awake.f (k : Nat)  : Option (Bool) := (patch_Encode.f k ([] : List ByteArray) (⟨#[]⟩ : ByteArray) (⟨#[]⟩ : ByteArray) ([] : List (S48))).bind fun bt336 => ((patch_Decode.f (([0, 1, 97, 0, 0] : List Int))).bind fun bt343 => ((patch_Play.f k ([] : List (S50)) (([(⟨(⟨#[97]⟩ : ByteArray), false, (⟨#[98]⟩ : ByteArray)⟩ : S48)] : List (S48)))).bind fun t356 => ((patch_Between.f k t356 ([] : List (S50))).bind fun t359 => (if bt336.2 = 0 then ((grapevineref01_Bytes.f k bt336.1 (([0, 0, 0, 0] : List Int))).bind fun t365 => (if t365 = true then (if bt343.2.2.2.2 = 0 then (if bt343.2.1.toList = ([97] : List UInt8) then ((grapevineref10_Same.f k t356 (([(⟨(⟨#[97]⟩ : ByteArray), (⟨#[98]⟩ : ByteArray)⟩ : S50)] : List (S50)))).bind fun t369 => (if t369 = true then ((grapevineref12_Changes.f k t359 (([(⟨(⟨#[97]⟩ : ByteArray), true, (⟨#[]⟩ : ByteArray)⟩ : S48)] : List (S48)))).bind fun t373 => (if t373 = true then ((patch_Name.f k ([] : List ByteArray) (⟨#[]⟩ : ByteArray) (⟨#[]⟩ : ByteArray) ([] : List (S48))).bind fun t374 => ((ref_Of.f bt336.1).bind fun t375 => (some (t374.toList == t375.toList)))) else (some false))) else (some false))) else (some false)) else (some false)) else (some false))) else (some false)))))
set_option maxHeartbeats 8000000 in
set_option maxRecDepth 100000 in
theorem grapevinelaw12_awake.calls (k : Nat)  (r : Bool) (w : World) (hG : GK w) (h : grapevinelaw12_awake.f k  = some r) (hrt : r = true) :
  Calls Tryd.prog 7 #[] w fun e w' => e = .returned (.bool r) ∧ Below w.heap.size w w' := by
 have hu25 := Tryd.underlying25
 have hu48 := Tryd.underlying48
 have hu50 := Tryd.underlying50
 have HB := Aside0.mk (Below.refl w.heap.size w)
 have H : ((patch_Encode.f k ([] : List ByteArray) (⟨#[]⟩ : ByteArray) (⟨#[]⟩ : ByteArray) ([] : List (S48))).bind fun bt336 => ((patch_Decode.f (([0, 1, 97, 0, 0] : List Int))).bind fun bt343 => ((patch_Play.f k ([] : List (S50)) (([(⟨(⟨#[97]⟩ : ByteArray), false, (⟨#[98]⟩ : ByteArray)⟩ : S48)] : List (S48)))).bind fun t356 => ((patch_Between.f k t356 ([] : List (S50))).bind fun t359 => (if bt336.2 = 0 then ((grapevineref01_Bytes.f k bt336.1 (([0, 0, 0, 0] : List Int))).bind fun t365 => (if t365 = true then (if bt343.2.2.2.2 = 0 then (if bt343.2.1.toList = ([97] : List UInt8) then ((grapevineref10_Same.f k t356 (([(⟨(⟨#[97]⟩ : ByteArray), (⟨#[98]⟩ : ByteArray)⟩ : S50)] : List (S50)))).bind fun t369 => (if t369 = true then ((grapevineref12_Changes.f k t359 (([(⟨(⟨#[97]⟩ : ByteArray), true, (⟨#[]⟩ : ByteArray)⟩ : S48)] : List (S48)))).bind fun t373 => (if t373 = true then ((patch_Name.f k ([] : List ByteArray) (⟨#[]⟩ : ByteArray) (⟨#[]⟩ : ByteArray) ([] : List (S48))).bind fun t374 => ((ref_Of.f bt336.1).bind fun t375 => (some (t374.toList == t375.toList)))) else (some false))) else (some false))) else (some false)) else (some false)) else (some false))) else (some false)))))) = some r := h
 clear h
 replace H := Option.bind_eq_some_iff.mp H
 obtain ⟨⟨t336, t339⟩, A10, H⟩ := H
 replace H : ((patch_Decode.f (([0, 1, 97, 0, 0] : List Int))).bind fun bt343 => ((patch_Play.f k ([] : List (S50)) (([(⟨(⟨#[97]⟩ : ByteArray), false, (⟨#[98]⟩ : ByteArray)⟩ : S48)] : List (S48)))).bind fun t356 => ((patch_Between.f k t356 ([] : List (S50))).bind fun t359 => (if t339 = 0 then ((grapevineref01_Bytes.f k t336 (([0, 0, 0, 0] : List Int))).bind fun t365 => (if t365 = true then (if bt343.2.2.2.2 = 0 then (if bt343.2.1.toList = ([97] : List UInt8) then ((grapevineref10_Same.f k t356 (([(⟨(⟨#[97]⟩ : ByteArray), (⟨#[98]⟩ : ByteArray)⟩ : S50)] : List (S50)))).bind fun t369 => (if t369 = true then ((grapevineref12_Changes.f k t359 (([(⟨(⟨#[97]⟩ : ByteArray), true, (⟨#[]⟩ : ByteArray)⟩ : S48)] : List (S48)))).bind fun t373 => (if t373 = true then ((patch_Name.f k ([] : List ByteArray) (⟨#[]⟩ : ByteArray) (⟨#[]⟩ : ByteArray) ([] : List (S48))).bind fun t374 => ((ref_Of.f t336).bind fun t375 => (some (t374.toList == t375.toList)))) else (some false))) else (some false))) else (some false)) else (some false)) else (some false))) else (some false))))) = some r := H
 have A1 := Aside0.mk A10
 clear A10
 obtain ⟨y340, hy340⟩ : ∃ y_ : List Int, y_ = (([0, 1, 97, 0, 0] : List Int)) := ⟨_, rfl⟩
 replace H : ((patch_Decode.f y340).bind fun bt343 => ((patch_Play.f k ([] : List (S50)) (([(⟨(⟨#[97]⟩ : ByteArray), false, (⟨#[98]⟩ : ByteArray)⟩ : S48)] : List (S48)))).bind fun t356 => ((patch_Between.f k t356 ([] : List (S50))).bind fun t359 => (if t339 = 0 then ((grapevineref01_Bytes.f k t336 (([0, 0, 0, 0] : List Int))).bind fun t365 => (if t365 = true then (if bt343.2.2.2.2 = 0 then (if bt343.2.1.toList = ([97] : List UInt8) then ((grapevineref10_Same.f k t356 (([(⟨(⟨#[97]⟩ : ByteArray), (⟨#[98]⟩ : ByteArray)⟩ : S50)] : List (S50)))).bind fun t369 => (if t369 = true then ((grapevineref12_Changes.f k t359 (([(⟨(⟨#[97]⟩ : ByteArray), true, (⟨#[]⟩ : ByteArray)⟩ : S48)] : List (S48)))).bind fun t373 => (if t373 = true then ((patch_Name.f k ([] : List ByteArray) (⟨#[]⟩ : ByteArray) (⟨#[]⟩ : ByteArray) ([] : List (S48))).bind fun t374 => ((ref_Of.f t336).bind fun t375 => (some (t374.toList == t375.toList)))) else (some false))) else (some false))) else (some false)) else (some false)) else (some false))) else (some false))))) = some r := by first | (rw [hy340]; with_reducible exact H) | (have H2_ := (Option.bind_some _ _).symm.trans H; rw [hy340]; with_reducible exact H2_) | (have H2_ := (Option.bind_some _ _).symm.trans H; with_reducible exact H2_) | with_reducible exact H | (rw [hy340]; exact H) | exact H
 have Ny340 := Aside0.mk hy340
 clear hy340
 replace H := Option.bind_eq_some_iff.mp H
 obtain ⟨⟨t343, t346, t347, t348, t351⟩, A20, H⟩ := H
 replace H : ((patch_Play.f k ([] : List (S50)) (([(⟨(⟨#[97]⟩ : ByteArray), false, (⟨#[98]⟩ : ByteArray)⟩ : S48)] : List (S48)))).bind fun t356 => ((patch_Between.f k t356 ([] : List (S50))).bind fun t359 => (if t339 = 0 then ((grapevineref01_Bytes.f k t336 (([0, 0, 0, 0] : List Int))).bind fun t365 => (if t365 = true then (if t351 = 0 then (if t346.toList = ([97] : List UInt8) then ((grapevineref10_Same.f k t356 (([(⟨(⟨#[97]⟩ : ByteArray), (⟨#[98]⟩ : ByteArray)⟩ : S50)] : List (S50)))).bind fun t369 => (if t369 = true then ((grapevineref12_Changes.f k t359 (([(⟨(⟨#[97]⟩ : ByteArray), true, (⟨#[]⟩ : ByteArray)⟩ : S48)] : List (S48)))).bind fun t373 => (if t373 = true then ((patch_Name.f k ([] : List ByteArray) (⟨#[]⟩ : ByteArray) (⟨#[]⟩ : ByteArray) ([] : List (S48))).bind fun t374 => ((ref_Of.f t336).bind fun t375 => (some (t374.toList == t375.toList)))) else (some false))) else (some false))) else (some false)) else (some false)) else (some false))) else (some false)))) = some r := H
 have A2 := Aside0.mk A20
 clear A20
 obtain ⟨y353, hy353⟩ : ∃ y_ : List (S48), y_ = (([(⟨(⟨#[97]⟩ : ByteArray), false, (⟨#[98]⟩ : ByteArray)⟩ : S48)] : List (S48))) := ⟨_, rfl⟩
 replace H : ((patch_Play.f k ([] : List (S50)) y353).bind fun t356 => ((patch_Between.f k t356 ([] : List (S50))).bind fun t359 => (if t339 = 0 then ((grapevineref01_Bytes.f k t336 (([0, 0, 0, 0] : List Int))).bind fun t365 => (if t365 = true then (if t351 = 0 then (if t346.toList = ([97] : List UInt8) then ((grapevineref10_Same.f k t356 (([(⟨(⟨#[97]⟩ : ByteArray), (⟨#[98]⟩ : ByteArray)⟩ : S50)] : List (S50)))).bind fun t369 => (if t369 = true then ((grapevineref12_Changes.f k t359 (([(⟨(⟨#[97]⟩ : ByteArray), true, (⟨#[]⟩ : ByteArray)⟩ : S48)] : List (S48)))).bind fun t373 => (if t373 = true then ((patch_Name.f k ([] : List ByteArray) (⟨#[]⟩ : ByteArray) (⟨#[]⟩ : ByteArray) ([] : List (S48))).bind fun t374 => ((ref_Of.f t336).bind fun t375 => (some (t374.toList == t375.toList)))) else (some false))) else (some false))) else (some false)) else (some false)) else (some false))) else (some false)))) = some r := by first | (rw [hy353]; with_reducible exact H) | (have H2_ := (Option.bind_some _ _).symm.trans H; rw [hy353]; with_reducible exact H2_) | (have H2_ := (Option.bind_some _ _).symm.trans H; with_reducible exact H2_) | with_reducible exact H | (rw [hy353]; exact H) | exact H
 have Ny353 := Aside0.mk hy353
 clear hy353
 replace H := Option.bind_eq_some_iff.mp H
 obtain ⟨t356, A30, H⟩ := H
 replace H : ((patch_Between.f k t356 ([] : List (S50))).bind fun t359 => (if t339 = 0 then ((grapevineref01_Bytes.f k t336 (([0, 0, 0, 0] : List Int))).bind fun t365 => (if t365 = true then (if t351 = 0 then (if t346.toList = ([97] : List UInt8) then ((grapevineref10_Same.f k t356 (([(⟨(⟨#[97]⟩ : ByteArray), (⟨#[98]⟩ : ByteArray)⟩ : S50)] : List (S50)))).bind fun t369 => (if t369 = true then ((grapevineref12_Changes.f k t359 (([(⟨(⟨#[97]⟩ : ByteArray), true, (⟨#[]⟩ : ByteArray)⟩ : S48)] : List (S48)))).bind fun t373 => (if t373 = true then ((patch_Name.f k ([] : List ByteArray) (⟨#[]⟩ : ByteArray) (⟨#[]⟩ : ByteArray) ([] : List (S48))).bind fun t374 => ((ref_Of.f t336).bind fun t375 => (some (t374.toList == t375.toList)))) else (some false))) else (some false))) else (some false)) else (some false)) else (some false))) else (some false))) = some r := H
 have A3 := Aside0.mk A30
 clear A30
 replace H := Option.bind_eq_some_iff.mp H
 obtain ⟨t359, A40, H⟩ := H
 replace H : (if t339 = 0 then ((grapevineref01_Bytes.f k t336 (([0, 0, 0, 0] : List Int))).bind fun t365 => (if t365 = true then (if t351 = 0 then (if t346.toList = ([97] : List UInt8) then ((grapevineref10_Same.f k t356 (([(⟨(⟨#[97]⟩ : ByteArray), (⟨#[98]⟩ : ByteArray)⟩ : S50)] : List (S50)))).bind fun t369 => (if t369 = true then ((grapevineref12_Changes.f k t359 (([(⟨(⟨#[97]⟩ : ByteArray), true, (⟨#[]⟩ : ByteArray)⟩ : S48)] : List (S48)))).bind fun t373 => (if t373 = true then ((patch_Name.f k ([] : List ByteArray) (⟨#[]⟩ : ByteArray) (⟨#[]⟩ : ByteArray) ([] : List (S48))).bind fun t374 => ((ref_Of.f t336).bind fun t375 => (some (t374.toList == t375.toList)))) else (some false))) else (some false))) else (some false)) else (some false)) else (some false))) else (some false)) = some r := H
 have A4 := Aside0.mk A40
 clear A40
 by_cases c5 : t339 = 0
 ·
  rw [if_pos c5] at H
  have c5b0 : (t339 == 0) = true := beq_iff_eq.mpr c5
  have c5b1 : (t339 != 0) = false := bne_eq_false_iff_eq.mpr c5
  clear c5
  obtain ⟨y362, hy362⟩ : ∃ y_ : List Int, y_ = (([0, 0, 0, 0] : List Int)) := ⟨_, rfl⟩
  replace H : ((grapevineref01_Bytes.f k t336 y362).bind fun t365 => (if t365 = true then (if t351 = 0 then (if t346.toList = ([97] : List UInt8) then ((grapevineref10_Same.f k t356 (([(⟨(⟨#[97]⟩ : ByteArray), (⟨#[98]⟩ : ByteArray)⟩ : S50)] : List (S50)))).bind fun t369 => (if t369 = true then ((grapevineref12_Changes.f k t359 (([(⟨(⟨#[97]⟩ : ByteArray), true, (⟨#[]⟩ : ByteArray)⟩ : S48)] : List (S48)))).bind fun t373 => (if t373 = true then ((patch_Name.f k ([] : List ByteArray) (⟨#[]⟩ : ByteArray) (⟨#[]⟩ : ByteArray) ([] : List (S48))).bind fun t374 => ((ref_Of.f t336).bind fun t375 => (some (t374.toList == t375.toList)))) else (some false))) else (some false))) else (some false)) else (some false)) else (some false))) = some r := by first | (rw [hy362]; with_reducible exact H) | (have H2_ := (Option.bind_some _ _).symm.trans H; rw [hy362]; with_reducible exact H2_) | (have H2_ := (Option.bind_some _ _).symm.trans H; with_reducible exact H2_) | with_reducible exact H | (rw [hy362]; exact H) | exact H
  have Ny362 := Aside0.mk hy362
  clear hy362
  replace H := Option.bind_eq_some_iff.mp H
  obtain ⟨t365, A60, H⟩ := H
  replace H : (if t365 = true then (if t351 = 0 then (if t346.toList = ([97] : List UInt8) then ((grapevineref10_Same.f k t356 (([(⟨(⟨#[97]⟩ : ByteArray), (⟨#[98]⟩ : ByteArray)⟩ : S50)] : List (S50)))).bind fun t369 => (if t369 = true then ((grapevineref12_Changes.f k t359 (([(⟨(⟨#[97]⟩ : ByteArray), true, (⟨#[]⟩ : ByteArray)⟩ : S48)] : List (S48)))).bind fun t373 => (if t373 = true then ((patch_Name.f k ([] : List ByteArray) (⟨#[]⟩ : ByteArray) (⟨#[]⟩ : ByteArray) ([] : List (S48))).bind fun t374 => ((ref_Of.f t336).bind fun t375 => (some (t374.toList == t375.toList)))) else (some false))) else (some false))) else (some false)) else (some false)) else (some false)) = some r := H
  have A6 := Aside0.mk A60
  clear A60
  by_cases c7 : t365 = true
  ·
   subst c7
   have H1 : (if t351 = 0 then (if t346.toList = ([97] : List UInt8) then ((grapevineref10_Same.f k t356 (([(⟨(⟨#[97]⟩ : ByteArray), (⟨#[98]⟩ : ByteArray)⟩ : S50)] : List (S50)))).bind fun t369 => (if t369 = true then ((grapevineref12_Changes.f k t359 (([(⟨(⟨#[97]⟩ : ByteArray), true, (⟨#[]⟩ : ByteArray)⟩ : S48)] : List (S48)))).bind fun t373 => (if t373 = true then ((patch_Name.f k ([] : List ByteArray) (⟨#[]⟩ : ByteArray) (⟨#[]⟩ : ByteArray) ([] : List (S48))).bind fun t374 => ((ref_Of.f t336).bind fun t375 => (some (t374.toList == t375.toList)))) else (some false))) else (some false))) else (some false)) else (some false)) = some r := by rw [if_pos rfl] at H; exact H
   clear H
   have H := H1
   clear H1
   by_cases c8 : t351 = 0
   ·
    rw [if_pos c8] at H
    have c8b0 : (t351 == 0) = true := beq_iff_eq.mpr c8
    have c8b1 : (t351 != 0) = false := bne_eq_false_iff_eq.mpr c8
    clear c8
    by_cases c9 : t346.toList = ([97] : List UInt8)
    ·
     rw [if_pos c9] at H
     have c9b0 : (t346.toList == ([97] : List UInt8)) = true := beq_iff_eq.mpr c9
     have c9b1 : (t346.toList != ([97] : List UInt8)) = false := bne_eq_false_iff_eq.mpr c9
     clear c9
     obtain ⟨y366, hy366⟩ : ∃ y_ : List (S50), y_ = (([(⟨(⟨#[97]⟩ : ByteArray), (⟨#[98]⟩ : ByteArray)⟩ : S50)] : List (S50))) := ⟨_, rfl⟩
     replace H : ((grapevineref10_Same.f k t356 y366).bind fun t369 => (if t369 = true then ((grapevineref12_Changes.f k t359 (([(⟨(⟨#[97]⟩ : ByteArray), true, (⟨#[]⟩ : ByteArray)⟩ : S48)] : List (S48)))).bind fun t373 => (if t373 = true then ((patch_Name.f k ([] : List ByteArray) (⟨#[]⟩ : ByteArray) (⟨#[]⟩ : ByteArray) ([] : List (S48))).bind fun t374 => ((ref_Of.f t336).bind fun t375 => (some (t374.toList == t375.toList)))) else (some false))) else (some false))) = some r := by first | (rw [hy366]; with_reducible exact H) | (have H2_ := (Option.bind_some _ _).symm.trans H; rw [hy366]; with_reducible exact H2_) | (have H2_ := (Option.bind_some _ _).symm.trans H; with_reducible exact H2_) | with_reducible exact H | (rw [hy366]; exact H) | exact H
     have Ny366 := Aside0.mk hy366
     clear hy366
     replace H := Option.bind_eq_some_iff.mp H
     obtain ⟨t369, A100, H⟩ := H
     replace H : (if t369 = true then ((grapevineref12_Changes.f k t359 (([(⟨(⟨#[97]⟩ : ByteArray), true, (⟨#[]⟩ : ByteArray)⟩ : S48)] : List (S48)))).bind fun t373 => (if t373 = true then ((patch_Name.f k ([] : List ByteArray) (⟨#[]⟩ : ByteArray) (⟨#[]⟩ : ByteArray) ([] : List (S48))).bind fun t374 => ((ref_Of.f t336).bind fun t375 => (some (t374.toList == t375.toList)))) else (some false))) else (some false)) = some r := H
     have A10 := Aside0.mk A100
     clear A100
     by_cases c11 : t369 = true
     ·
      subst c11
      have H1 : ((grapevineref12_Changes.f k t359 (([(⟨(⟨#[97]⟩ : ByteArray), true, (⟨#[]⟩ : ByteArray)⟩ : S48)] : List (S48)))).bind fun t373 => (if t373 = true then ((patch_Name.f k ([] : List ByteArray) (⟨#[]⟩ : ByteArray) (⟨#[]⟩ : ByteArray) ([] : List (S48))).bind fun t374 => ((ref_Of.f t336).bind fun t375 => (some (t374.toList == t375.toList)))) else (some false))) = some r := by rw [if_pos rfl] at H; exact H
      clear H
      have H := H1
      clear H1
      obtain ⟨y370, hy370⟩ : ∃ y_ : List (S48), y_ = (([(⟨(⟨#[97]⟩ : ByteArray), true, (⟨#[]⟩ : ByteArray)⟩ : S48)] : List (S48))) := ⟨_, rfl⟩
      replace H : ((grapevineref12_Changes.f k t359 y370).bind fun t373 => (if t373 = true then ((patch_Name.f k ([] : List ByteArray) (⟨#[]⟩ : ByteArray) (⟨#[]⟩ : ByteArray) ([] : List (S48))).bind fun t374 => ((ref_Of.f t336).bind fun t375 => (some (t374.toList == t375.toList)))) else (some false))) = some r := by first | (rw [hy370]; with_reducible exact H) | (have H2_ := (Option.bind_some _ _).symm.trans H; rw [hy370]; with_reducible exact H2_) | (have H2_ := (Option.bind_some _ _).symm.trans H; with_reducible exact H2_) | with_reducible exact H | (rw [hy370]; exact H) | exact H
      have Ny370 := Aside0.mk hy370
      clear hy370
      replace H := Option.bind_eq_some_iff.mp H
      obtain ⟨t373, A120, H⟩ := H
      replace H : (if t373 = true then ((patch_Name.f k ([] : List ByteArray) (⟨#[]⟩ : ByteArray) (⟨#[]⟩ : ByteArray) ([] : List (S48))).bind fun t374 => ((ref_Of.f t336).bind fun t375 => (some (t374.toList == t375.toList)))) else (some false)) = some r := H
      have A12 := Aside0.mk A120
      clear A120
      by_cases c13 : t373 = true
      ·
       subst c13
       have H1 : ((patch_Name.f k ([] : List ByteArray) (⟨#[]⟩ : ByteArray) (⟨#[]⟩ : ByteArray) ([] : List (S48))).bind fun t374 => ((ref_Of.f t336).bind fun t375 => (some (t374.toList == t375.toList)))) = some r := by rw [if_pos rfl] at H; exact H
       clear H
       have H := H1
       clear H1
       replace H := Option.bind_eq_some_iff.mp H
       obtain ⟨t374, A140, H⟩ := H
       replace H : ((ref_Of.f t336).bind fun t375 => (some (t374.toList == t375.toList))) = some r := H
       have A14 := Aside0.mk A140
       clear A140
       replace H := Option.bind_eq_some_iff.mp H
       obtain ⟨t375, A150, H⟩ := H
       replace H : (some (t374.toList == t375.toList)) = some r := H
       have A15 := Aside0.mk A150
       clear A150
       obtain rfl := Option.some.inj H
       clear hrt
       go_enter Tryd.func7, Tryd.ntmps7
       go_wp2_with (first | ((with_reducible refine gate_callee (f := 9) rfl ?_); refine goesL_ (some 9) rfl rfl Tryd.func9 (by kernel_rfl) rfl #[.agg #[.slice none 0 0, .string (⟨#[]⟩ : ByteArray), .string (⟨#[]⟩ : ByteArray), .slice none 0 0]] rfl (by (try simp only [List.map_toArray, List.map_cons, List.map_nil]); first | done | rfl | (simp only [List.length_drop, List.length_take]; rfl)) ?_; (refine (patch_Encode.calls k _ _ ([] : List ByteArray) (⟨#[]⟩ : ByteArray) (⟨#[]⟩ : ByteArray) _ _ ([] : List (S48)) t336 t339 _ ?side1 ?side2 ?side3 ?side4 A1.out).mono ?_); (case side1 => exact Kd.C_nil _ _); (case side2 => exact Nat.le_refl _); (case side3 => exact Kd.C_nil _ _); (case side4 => exact Nat.le_refl _); rintro e w16 ⟨v337, rfl, ho0, hb⟩; refine ⟨_, rfl, ?_⟩; have n0_ := Aside0.mk (Kd.R_lower ho0 (zK (by repeat (first | (with_reducible first | exact HB.out | apply zC | apply zA | apply zB) | exact HB.out)))); have n1_ := Aside0.mk (zL (by repeat (first | (with_reducible first | exact HB.out | apply zC | apply zA | apply zB) | exact HB.out)) hb); clear HB; have HO338 := n0_; have HB := n1_; clear n0_ n1_; (try clear hb); (try clear hb2); (try clear hk); (try clear hi); (try clear ho0)) | ((with_reducible refine gate_dst (N := 13) rfl ?_); (try (refine gate_guard (by rfl) ?_; dsimp only)); refine Kd.R_lit (Kd.int .u8) _ 5 ?hg (N := 13) ?hd (xs := ([0, 1, 97, 0, 0] : List Int)) (inner := [.int .u8 0, .int .u8 1, .int .u8 97, .int .u8 0, .int .u8 0]) (ok := fun _ => True) (okp := fun _ => True) ?hr ?hp (fun _ hk => hk) trivial (Below.refl _ _) (Nat.le_refl _) (by simp) ?_; (case hd => rfl); (case hg => rfl); (case hr => first | (go_simp; done) | (go_simp; rfl)); (case hp => exact (Reps.one (show Kd.M (Kd.int .u8) _ _ _ 0 [.int .u8 0] from rfl) (Reps.one (show Kd.M (Kd.int .u8) _ _ _ 1 [.int .u8 1] from rfl) (Reps.one (show Kd.M (Kd.int .u8) _ _ _ 97 [.int .u8 97] from rfl) (Reps.one (show Kd.M (Kd.int .u8) _ _ _ 0 [.int .u8 0] from rfl) (Reps.one (show Kd.M (Kd.int .u8) _ _ _ 0 [.int .u8 0] from rfl) (Reps.none _ _))))))); intro v341 w17 ho18 hb hg_ hnew_; clear hg_ hnew_; (first | rw [← Ny340.out] at ho18 | (simp only [Int.reduceToNat] at ho18; rw [← Ny340.out] at ho18)); have n0_ := Aside0.mk (Kd.R_elder' (by (with_reducible repeat (first | apply Kd.R_alloc | apply Kd.R_drewN | apply Kd.R_drew)); exact HO338.out) (Kd.R_base ho18) hb); have n1_ := Aside0.mk (Kd.R_lower (Kd.R_new' ho18 (Kd.R_lt (by (with_reducible repeat (first | apply Kd.R_alloc | apply Kd.R_drewN | apply Kd.R_drew)); exact HO338.out))) (zK (by repeat (first | (with_reducible first | exact HB.out | apply zC | apply zA | apply zB) | exact HB.out)))); have n2_ := Aside0.mk (zL (by repeat (first | (with_reducible first | exact HB.out | apply zC | apply zA | apply zB) | exact HB.out)) hb); clear HO338; clear HB; have HO338 := n0_; have HO342 := n1_; have HB := n2_; clear n0_ n1_ n2_; clear hb ho18; obtain ⟨Ao19, co19, eo19⟩ := Kd.R_slice HO342.out; subst eo19) | ((with_reducible refine gate_callee (f := 10) rfl ?_); refine goesL_ (some 14) rfl rfl Tryd.func10 (by kernel_rfl) rfl #[.slice Ao19 y340.length co19] rfl (by (try simp only [List.map_toArray, List.map_cons, List.map_nil]); first | done | rfl | (simp only [List.length_drop, List.length_take]; rfl)) ?_; (with_reducible refine (patch_Decode.calls _ _ y340 t343 t346 t347 t348 t351 _ ?side1 ?side2 A2.out).mono ?_); (case side1 => repeat (first | exact (Kd.R_reads' HO342.out).2.2 | (with_reducible refine Kd.C_alloc ?_ _) | (with_reducible refine Kd.C_drewN ?_ _) | (with_reducible refine Kd.C_drew ?_))); (case side2 => exact (Kd.R_reads' HO342.out).2.1); rintro e w20 ⟨v344, v349, rfl, ho0, ho1, hb⟩; refine ⟨_, rfl, ?_⟩; have n0_ := Aside0.mk (Kd.R_below (by (with_reducible repeat (first | apply Kd.R_alloc | apply Kd.R_drewN | apply Kd.R_drew)); exact HO338.out) hb); have n1_ := Aside0.mk (Kd.R_below (by (with_reducible repeat (first | apply Kd.R_alloc | apply Kd.R_drewN | apply Kd.R_drew)); exact HO342.out) hb); have n2_ := Aside0.mk (Kd.R_lower ho0 (zK (by repeat (first | (with_reducible first | exact HB.out | apply zC | apply zA | apply zB) | exact HB.out)))); have n3_ := Aside0.mk (Kd.R_lower ho1 (zK (by repeat (first | (with_reducible first | exact HB.out | apply zC | apply zA | apply zB) | exact HB.out)))); have n4_ := Aside0.mk (zL (by repeat (first | (with_reducible first | exact HB.out | apply zC | apply zA | apply zB) | exact HB.out)) hb); clear HO338; clear HO342; clear HB; have HO338 := n0_; have HO342 := n1_; have HO345 := n2_; have HO350 := n3_; have HB := n4_; clear n0_ n1_ n2_ n3_ n4_; (try clear hb); (try clear hb2); (try clear hk); (try clear hi); (try clear ho0); (try clear ho1)) | ((with_reducible refine gate_dst (N := 3) rfl ?_); (try (refine gate_guard (by rfl) ?_; dsimp only)); refine box_event ?hg (N := 3) ?hd (cs := #[.slice none 0 0, .string (⟨#[]⟩ : ByteArray), .string (⟨#[]⟩ : ByteArray), .slice none 0 0]) (t := 25) ?hr ?_; (case hd => rfl); (case hg => rfl); (case hr => first | (go_simp; done) | (go_simp; rfl)); intro gb352 hg w21 hbox hb; have n0_ := Aside0.mk (Kd.R_below (by (with_reducible repeat (first | apply Kd.R_alloc | apply Kd.R_drewN | apply Kd.R_drew)); exact HO338.out) hb); have n1_ := Aside0.mk (Kd.R_below (by (with_reducible repeat (first | apply Kd.R_alloc | apply Kd.R_drewN | apply Kd.R_drew)); exact HO342.out) hb); have n2_ := Aside0.mk (Kd.R_below (by (with_reducible repeat (first | apply Kd.R_alloc | apply Kd.R_drewN | apply Kd.R_drew)); exact HO345.out) hb); have n3_ := Aside0.mk (Kd.R_below (by (with_reducible repeat (first | apply Kd.R_alloc | apply Kd.R_drewN | apply Kd.R_drew)); exact HO350.out) hb); have n4_ := Aside0.mk (zL (by repeat (first | (with_reducible first | exact HB.out | apply zC | apply zA | apply zB) | exact HB.out)) hb); have n5_ := Aside0.mk (hbox); have n6_ := Aside0.mk ((by rw [hg]; exact (zK (by repeat (first | (with_reducible first | exact HB.out | apply zC | apply zA | apply zB) | exact HB.out))) : w.heap.size ≤ gb352)); have n7_ := Aside0.mk ((by rw [hg]; exact (zK (by repeat (first | (with_reducible first | exact HB.out | apply zC | apply zA | apply zB) | exact HB.out))) : w.heap.size ≤ gb352)); clear HO338; clear HO342; clear HO345; clear HO350; clear HB; have HO338 := n0_; have HO342 := n1_; have HO345 := n2_; have HO350 := n3_; have HB := n4_; have BK352 := n5_; have GW352 := n6_; have GE352 := n7_; clear n0_ n1_ n2_ n3_ n4_ n5_ n6_ n7_; clear hb hbox hg; obtain ⟨Ao22, co22, eo22⟩ := Kd.R_slice HO345.out; subst eo22; have hcz23_0 : w21.cell? ⟨gb352, 0, none⟩ = some (.slice none 0 0) := (zD BK352.out 0).trans rfl; have hcz23_1 : w21.cell? ⟨gb352, 1, none⟩ = some (.string (⟨#[]⟩ : ByteArray)) := (zD BK352.out 1).trans rfl; have hcz23_2 : w21.cell? ⟨gb352, 2, none⟩ = some (.string (⟨#[]⟩ : ByteArray)) := (zD BK352.out 2).trans rfl; have hcz23_3 : w21.cell? ⟨gb352, 3, none⟩ = some (.slice none 0 0) := (zD BK352.out 3).trans rfl; have hfz23_0 := zH BK352.out 0; have hfz23_1 := zH BK352.out 1; have hfz23_2 := zH BK352.out 2; have hfz23_3 := zH BK352.out 3; obtain ⟨Ao24, co24, eo24⟩ := Kd.R_slice HO350.out; subst eo24) | ((with_reducible refine gate_dst (N := 18) rfl ?_); (try (refine gate_guard (by rfl) ?_; dsimp only)); refine Kd.R_lit k48 _ 48 ?hg (N := 18) ?hd (xs := ([(⟨(⟨#[97]⟩ : ByteArray), false, (⟨#[98]⟩ : ByteArray)⟩ : S48)] : List (S48))) (inner := [.string (⟨#[97]⟩ : ByteArray), .bool false, .string (⟨#[98]⟩ : ByteArray)]) (ok := fun _ => True) (okp := fun _ => True) ?hr ?hp (fun _ hk => hk) trivial (Below.refl _ _) (Nat.le_refl _) (by simp) ?_; (case hd => rfl); (case hg => rfl); (case hr => first | (go_simp; done) | (go_simp; rfl)); (case hp => exact (Reps.c3 (show Kd.M k48 _ _ _ (⟨(⟨#[97]⟩ : ByteArray), false, (⟨#[98]⟩ : ByteArray)⟩ : S48) [.string (⟨#[97]⟩ : ByteArray), .bool false, .string (⟨#[98]⟩ : ByteArray)] from (k48_mkM _ _ _ (⟨(⟨#[97]⟩ : ByteArray), false, (⟨#[98]⟩ : ByteArray)⟩ : S48) )) (Reps.none _ _))); intro v354 w25 ho26 hb hg_ hnew_; clear hg_ hnew_; (first | rw [← Ny353.out] at ho26 | (simp only [Int.reduceToNat] at ho26; rw [← Ny353.out] at ho26)); have n0_ := Aside0.mk (Kd.R_below (by (with_reducible repeat (first | apply Kd.R_alloc | apply Kd.R_drewN | apply Kd.R_drew)); exact (Kd.R_mono (Kd.R_far (p := ⟨gb352, 3, none⟩) (Kd.R_far (p := ⟨gb352, 2, none⟩) (Kd.R_far (p := ⟨gb352, 1, none⟩) (Kd.R_far (p := ⟨gb352, 0, none⟩) (Kd.R_types HO338.out BK352.out (by decide)) (fun _ hk => hk.2) (.slice Ao22 t343.length co22)) (fun _ hk => hk.2) (.string t346)) (fun _ hk => hk.2) (.string t347)) (fun _ hk => hk.2) (.slice Ao24 t348.length co24)) (fun _ h_ => h_.1))) hb); have n1_ := Aside0.mk (Kd.R_below (by (with_reducible repeat (first | apply Kd.R_alloc | apply Kd.R_drewN | apply Kd.R_drew)); exact (Kd.R_mono (Kd.R_far (p := ⟨gb352, 3, none⟩) (Kd.R_far (p := ⟨gb352, 2, none⟩) (Kd.R_far (p := ⟨gb352, 1, none⟩) (Kd.R_far (p := ⟨gb352, 0, none⟩) (Kd.R_types HO342.out BK352.out (by decide)) (fun _ hk => hk.2) (.slice Ao22 t343.length co22)) (fun _ hk => hk.2) (.string t346)) (fun _ hk => hk.2) (.string t347)) (fun _ hk => hk.2) (.slice Ao24 t348.length co24)) (fun _ h_ => h_.1))) hb); have n2_ := Aside0.mk (Kd.R_below (by (with_reducible repeat (first | apply Kd.R_alloc | apply Kd.R_drewN | apply Kd.R_drew)); exact (Kd.R_mono (Kd.R_far (p := ⟨gb352, 3, none⟩) (Kd.R_far (p := ⟨gb352, 2, none⟩) (Kd.R_far (p := ⟨gb352, 1, none⟩) (Kd.R_far (p := ⟨gb352, 0, none⟩) (Kd.R_types HO345.out BK352.out (by decide)) (fun _ hk => hk.2) (.slice Ao22 t343.length co22)) (fun _ hk => hk.2) (.string t346)) (fun _ hk => hk.2) (.string t347)) (fun _ hk => hk.2) (.slice Ao24 t348.length co24)) (fun _ h_ => h_.1))) hb); have n3_ := Aside0.mk (Kd.R_elder' (by (with_reducible repeat (first | apply Kd.R_alloc | apply Kd.R_drewN | apply Kd.R_drew)); exact (Kd.R_mono (Kd.R_far (p := ⟨gb352, 3, none⟩) (Kd.R_far (p := ⟨gb352, 2, none⟩) (Kd.R_far (p := ⟨gb352, 1, none⟩) (Kd.R_far (p := ⟨gb352, 0, none⟩) (Kd.R_types HO350.out BK352.out (by decide)) (fun _ hk => hk.2) (.slice Ao22 t343.length co22)) (fun _ hk => hk.2) (.string t346)) (fun _ hk => hk.2) (.string t347)) (fun _ hk => hk.2) (.slice Ao24 t348.length co24)) (fun _ h_ => h_.1))) (Kd.R_base ho26) hb); have n4_ := Aside0.mk (Kd.R_lower (Kd.R_new' ho26 (Kd.R_lt (by (with_reducible repeat (first | apply Kd.R_alloc | apply Kd.R_drewN | apply Kd.R_drew)); exact (Kd.R_mono (Kd.R_far (p := ⟨gb352, 3, none⟩) (Kd.R_far (p := ⟨gb352, 2, none⟩) (Kd.R_far (p := ⟨gb352, 1, none⟩) (Kd.R_far (p := ⟨gb352, 0, none⟩) (Kd.R_types HO350.out BK352.out (by decide)) (fun _ hk => hk.2) (.slice Ao22 t343.length co22)) (fun _ hk => hk.2) (.string t346)) (fun _ hk => hk.2) (.string t347)) (fun _ hk => hk.2) (.slice Ao24 t348.length co24)) (fun _ h_ => h_.1))))) (zK (by repeat (first | (with_reducible first | exact HB.out | apply zC | apply zA | apply zB | refine zE ?_ GE352.out) | exact HB.out)))); have n5_ := Aside0.mk (zM (g := gb352) (o := .cells #[.slice Ao22 t343.length co22, .string t346, .string t347, .slice Ao24 t348.length co24] 25 (0, 0)) (by (with_reducible repeat (first | refine zG ?_ _ | refine zI ?_ | refine zF ?_ _)); refine blk_put (cs := #[.slice Ao22 t343.length co22, .string t346, .string t347, .slice none 0 0]) ?_ 3 _ rfl; (with_reducible repeat (first | refine zG ?_ _ | refine zI ?_ | refine zF ?_ _)); refine blk_put (cs := #[.slice Ao22 t343.length co22, .string t346, .string (⟨#[]⟩ : ByteArray), .slice none 0 0]) ?_ 2 _ rfl; (with_reducible repeat (first | refine zG ?_ _ | refine zI ?_ | refine zF ?_ _)); refine blk_put (cs := #[.slice Ao22 t343.length co22, .string (⟨#[]⟩ : ByteArray), .string (⟨#[]⟩ : ByteArray), .slice none 0 0]) ?_ 1 _ rfl; (with_reducible repeat (first | refine zG ?_ _ | refine zI ?_ | refine zF ?_ _)); refine blk_put (cs := #[.slice none 0 0, .string (⟨#[]⟩ : ByteArray), .string (⟨#[]⟩ : ByteArray), .slice none 0 0]) ?_ 0 _ rfl; (with_reducible repeat (first | refine zG ?_ _ | refine zI ?_ | refine zF ?_ _)); exact BK352.out) hb); have n6_ := Aside0.mk (zL (by repeat (first | (with_reducible first | exact HB.out | apply zC | apply zA | apply zB | refine zE ?_ GE352.out) | exact HB.out)) hb); clear HO338; clear HO342; clear HO345; clear HO350; clear BK352; clear HB; have HO338 := n0_; have HO342 := n1_; have HO345 := n2_; have HO350 := n3_; have HO355 := n4_; have BK352 := n5_; have HB := n6_; clear n0_ n1_ n2_ n3_ n4_ n5_ n6_; clear hb ho26; obtain ⟨Ao27, co27, eo27⟩ := Kd.R_slice HO355.out; subst eo27) | ((with_reducible refine gate_callee (f := 18) rfl ?_); refine goesL_ (some 19) rfl rfl Tryd.func18 (by kernel_rfl) rfl #[.slice none 0 0, .slice Ao27 y353.length co27] rfl (by (try simp only [List.map_toArray, List.map_cons, List.map_nil]); first | done | rfl | (simp only [List.length_drop, List.length_take]; rfl)) ?_; (refine (patch_Play.calls k _ _ ([] : List (S50)) _ _ y353 t356 _ ?side1 ?side2 ?side3 ?side4 A3.out).mono ?_); (case side1 => exact Kd.C_nil _ _); (case side2 => exact Nat.le_refl _); (case side3 => repeat (first | exact (Kd.R_reads' HO355.out).2.2 | (with_reducible refine Kd.C_alloc ?_ _) | (with_reducible refine Kd.C_drewN ?_ _) | (with_reducible refine Kd.C_drew ?_))); (case side4 => exact (Kd.R_reads' HO355.out).2.1); rintro e w28 ⟨v357, rfl, ho0, hb⟩; refine ⟨_, rfl, ?_⟩; have n0_ := Aside0.mk (Kd.R_below (by (with_reducible repeat (first | apply Kd.R_alloc | apply Kd.R_drewN | apply Kd.R_drew)); exact HO338.out) hb); have n1_ := Aside0.mk (Kd.R_below (by (with_reducible repeat (first | apply Kd.R_alloc | apply Kd.R_drewN | apply Kd.R_drew)); exact HO342.out) hb); have n2_ := Aside0.mk (Kd.R_below (by (with_reducible repeat (first | apply Kd.R_alloc | apply Kd.R_drewN | apply Kd.R_drew)); exact HO345.out) hb); have n3_ := Aside0.mk (Kd.R_below (by (with_reducible repeat (first | apply Kd.R_alloc | apply Kd.R_drewN | apply Kd.R_drew)); exact HO350.out) hb); have n4_ := Aside0.mk (Kd.R_below (by (with_reducible repeat (first | apply Kd.R_alloc | apply Kd.R_drewN | apply Kd.R_drew)); exact HO355.out) hb); have n5_ := Aside0.mk (Kd.R_lower ho0 (zK (by repeat (first | (with_reducible first | exact HB.out | apply zC | apply zA | apply zB | refine zE ?_ GE352.out) | exact HB.out)))); have n6_ := Aside0.mk (zM (g := gb352) (o := .cells #[.slice Ao22 t343.length co22, .string t346, .string t347, .slice Ao24 t348.length co24] 25 (0, 0)) (by (with_reducible repeat (first | refine zG ?_ _ | refine zI ?_ | refine zF ?_ _)); exact BK352.out) hb); have n7_ := Aside0.mk (zL (by repeat (first | (with_reducible first | exact HB.out | apply zC | apply zA | apply zB | refine zE ?_ GE352.out) | exact HB.out)) hb); clear HO338; clear HO342; clear HO345; clear HO350; clear HO355; clear BK352; clear HB; have HO338 := n0_; have HO342 := n1_; have HO345 := n2_; have HO350 := n3_; have HO355 := n4_; have HO358 := n5_; have BK352 := n6_; have HB := n7_; clear n0_ n1_ n2_ n3_ n4_ n5_ n6_ n7_; (try clear hb); (try clear hb2); (try clear hk); (try clear hi); (try clear ho0); obtain ⟨Ao29, co29, eo29⟩ := Kd.R_slice HO358.out; subst eo29) | ((with_reducible refine gate_callee (f := 16) rfl ?_); refine goesL_ (some 21) rfl rfl Tryd.func16 (by kernel_rfl) rfl #[.slice Ao29 t356.length co29, .slice none 0 0] rfl (by (try simp only [List.map_toArray, List.map_cons, List.map_nil]); first | done | rfl | (simp only [List.length_drop, List.length_take]; rfl)) ?_; (refine (patch_Between.calls k (fun k_ => some k_ = (.slice Ao29 t356.length co29 : Value).ownBlock) _ _ t356 (fun k_ => False) _ _ ([] : List (S50)) t359 _ ?side1 ?side2 A4.out).mono ?_); (case side1 => exact Kd.R_V (Kd.R_tight rfl (Kd.R_types (Kd.R_apart' (Kd.R_apart' (Kd.R_apart' (Kd.R_apart' (Kd.R_apart' (HO358.out) (Kd.R_typed HO338.out) (by decide)) (Kd.R_typed HO342.out) (by decide)) (Kd.R_typed HO345.out) (by decide)) (Kd.R_typed HO350.out) (by decide)) (Kd.R_typed HO355.out) (by decide)) BK352.out (by decide)))); (case side2 => exact Kd.V_nil _ _ _ _ _); rintro e w30 ⟨v360, rfl, ho0, hb⟩; refine ⟨_, rfl, ?_⟩; have n0_ := Aside0.mk (Kd.R_below (by (with_reducible repeat (first | apply Kd.R_alloc | apply Kd.R_drewN | apply Kd.R_drew)); exact HO338.out) hb); have n1_ := Aside0.mk (Kd.R_below (by (with_reducible repeat (first | apply Kd.R_alloc | apply Kd.R_drewN | apply Kd.R_drew)); exact HO342.out) hb); have n2_ := Aside0.mk (Kd.R_below (by (with_reducible repeat (first | apply Kd.R_alloc | apply Kd.R_drewN | apply Kd.R_drew)); exact HO345.out) hb); have n3_ := Aside0.mk (Kd.R_elder' (by (with_reducible repeat (first | apply Kd.R_alloc | apply Kd.R_drewN | apply Kd.R_drew)); exact HO350.out) (Kd.R_base ho0) hb); have n4_ := Aside0.mk (Kd.R_elder' (by (with_reducible repeat (first | apply Kd.R_alloc | apply Kd.R_drewN | apply Kd.R_drew)); exact HO355.out) (Kd.R_base ho0) hb); have n5_ := Aside0.mk (Kd.R_below (by (with_reducible repeat (first | apply Kd.R_alloc | apply Kd.R_drewN | apply Kd.R_drew)); exact HO358.out) hb); have n6_ := Aside0.mk (Kd.R_lower (Kd.R_new' (Kd.R_new' (Kd.R_mono (ok' := fun k_ => True) ho0 (fun _ hk_ => trivial)) (Kd.R_lt (by (with_reducible repeat (first | apply Kd.R_alloc | apply Kd.R_drewN | apply Kd.R_drew)); exact HO350.out))) (Kd.R_lt (by (with_reducible repeat (first | apply Kd.R_alloc | apply Kd.R_drewN | apply Kd.R_drew)); exact HO355.out))) (zK (by repeat (first | (with_reducible first | exact HB.out | apply zC | apply zA | apply zB | refine zE ?_ GE352.out) | exact HB.out)))); have n7_ := Aside0.mk (zM (g := gb352) (o := .cells #[.slice Ao22 t343.length co22, .string t346, .string t347, .slice Ao24 t348.length co24] 25 (0, 0)) (by (with_reducible repeat (first | refine zG ?_ _ | refine zI ?_ | refine zF ?_ _)); exact BK352.out) hb); have n8_ := Aside0.mk (zL (by repeat (first | (with_reducible first | exact HB.out | apply zC | apply zA | apply zB | refine zE ?_ GE352.out) | exact HB.out)) hb); clear HO338; clear HO342; clear HO345; clear HO350; clear HO355; clear HO358; clear BK352; clear HB; have HO338 := n0_; have HO342 := n1_; have HO345 := n2_; have HO350 := n3_; have HO355 := n4_; have HO358 := n5_; have HO361 := n6_; have BK352 := n7_; have HB := n8_; clear n0_ n1_ n2_ n3_ n4_ n5_ n6_ n7_ n8_; (try clear hb); (try clear hb2); (try clear hk); (try clear hi); (try clear ho0)) | ((with_reducible refine gate_dst (N := 26) rfl ?_); (try (refine gate_guard (by rfl) ?_; dsimp only)); refine Kd.R_lit (Kd.int .u8) _ 5 ?hg (N := 26) ?hd (xs := ([0, 0, 0, 0] : List Int)) (inner := [.int .u8 0, .int .u8 0, .int .u8 0, .int .u8 0]) (ok := fun _ => True) (okp := fun _ => True) ?hr ?hp (fun _ hk => hk) trivial (Below.refl _ _) (Nat.le_refl _) (by simp) ?_; (case hd => rfl); (case hg => rfl); (case hr => first | (go_simp; done) | (go_simp; rfl)); (case hp => exact (Reps.one (show Kd.M (Kd.int .u8) _ _ _ 0 [.int .u8 0] from rfl) (Reps.one (show Kd.M (Kd.int .u8) _ _ _ 0 [.int .u8 0] from rfl) (Reps.one (show Kd.M (Kd.int .u8) _ _ _ 0 [.int .u8 0] from rfl) (Reps.one (show Kd.M (Kd.int .u8) _ _ _ 0 [.int .u8 0] from rfl) (Reps.none _ _)))))); intro v363 w31 ho32 hb hg_ hnew_; clear hg_ hnew_; (first | rw [← Ny362.out] at ho32 | (simp only [Int.reduceToNat] at ho32; rw [← Ny362.out] at ho32)); have n0_ := Aside0.mk (Kd.R_elder' (by (with_reducible repeat (first | apply Kd.R_alloc | apply Kd.R_drewN | apply Kd.R_drew)); exact HO338.out) (Kd.R_base ho32) hb); have n1_ := Aside0.mk (Kd.R_elder' (by (with_reducible repeat (first | apply Kd.R_alloc | apply Kd.R_drewN | apply Kd.R_drew)); exact HO342.out) (Kd.R_base ho32) hb); have n2_ := Aside0.mk (Kd.R_below (by (with_reducible repeat (first | apply Kd.R_alloc | apply Kd.R_drewN | apply Kd.R_drew)); exact HO345.out) hb); have n3_ := Aside0.mk (Kd.R_below (by (with_reducible repeat (first | apply Kd.R_alloc | apply Kd.R_drewN | apply Kd.R_drew)); exact HO350.out) hb); have n4_ := Aside0.mk (Kd.R_below (by (with_reducible repeat (first | apply Kd.R_alloc | apply Kd.R_drewN | apply Kd.R_drew)); exact HO355.out) hb); have n5_ := Aside0.mk (Kd.R_below (by (with_reducible repeat (first | apply Kd.R_alloc | apply Kd.R_drewN | apply Kd.R_drew)); exact HO358.out) hb); have n6_ := Aside0.mk (Kd.R_below (by (with_reducible repeat (first | apply Kd.R_alloc | apply Kd.R_drewN | apply Kd.R_drew)); exact HO361.out) hb); have n7_ := Aside0.mk (Kd.R_lower (Kd.R_new' (Kd.R_new' ho32 (Kd.R_lt (by (with_reducible repeat (first | apply Kd.R_alloc | apply Kd.R_drewN | apply Kd.R_drew)); exact HO338.out))) (Kd.R_lt (by (with_reducible repeat (first | apply Kd.R_alloc | apply Kd.R_drewN | apply Kd.R_drew)); exact HO342.out))) (zK (by repeat (first | (with_reducible first | exact HB.out | apply zC | apply zA | apply zB | refine zE ?_ GE352.out) | exact HB.out)))); have n8_ := Aside0.mk (zM (g := gb352) (o := .cells #[.slice Ao22 t343.length co22, .string t346, .string t347, .slice Ao24 t348.length co24] 25 (0, 0)) (by (with_reducible repeat (first | refine zG ?_ _ | refine zI ?_ | refine zF ?_ _)); exact BK352.out) hb); have n9_ := Aside0.mk (zL (by repeat (first | (with_reducible first | exact HB.out | apply zC | apply zA | apply zB | refine zE ?_ GE352.out) | exact HB.out)) hb); clear HO338; clear HO342; clear HO345; clear HO350; clear HO355; clear HO358; clear HO361; clear BK352; clear HB; have HO338 := n0_; have HO342 := n1_; have HO345 := n2_; have HO350 := n3_; have HO355 := n4_; have HO358 := n5_; have HO361 := n6_; have HO364 := n7_; have BK352 := n8_; have HB := n9_; clear n0_ n1_ n2_ n3_ n4_ n5_ n6_ n7_ n8_ n9_; clear hb ho32; obtain ⟨Ao33, co33, eo33⟩ := Kd.R_slice HO338.out; subst eo33; obtain ⟨Ao34, co34, eo34⟩ := Kd.R_slice HO364.out; subst eo34) | (go_at_call 13; (with_reducible refine (grapevineref01_Bytes.calls k _ _ t336 _ _ y362 true _ ?side1 ?side2 ?side3 ?side4 A6.out).mono ?_); (case side1 => repeat (first | exact (Kd.R_reads' HO338.out).2.2 | (with_reducible refine Kd.C_alloc ?_ _) | (with_reducible refine Kd.C_drewN ?_ _) | (with_reducible refine Kd.C_drew ?_))); (case side2 => exact (Kd.R_reads' HO338.out).2.1); (case side3 => repeat (first | exact (Kd.R_reads' HO364.out).2.2 | (with_reducible refine Kd.C_alloc ?_ _) | (with_reducible refine Kd.C_drewN ?_ _) | (with_reducible refine Kd.C_drew ?_))); (case side4 => exact (Kd.R_reads' HO364.out).2.1); rintro e w' ⟨rfl, ⟨nd, rfl⟩⟩; have hcz35_0 : w31.cell? ⟨gb352, 0, none⟩ = some (.slice Ao22 t343.length co22) := (zD BK352.out 0).trans rfl; have hcz35_1 : w31.cell? ⟨gb352, 1, none⟩ = some (.string t346) := (zD BK352.out 1).trans rfl; have hcz35_2 : w31.cell? ⟨gb352, 2, none⟩ = some (.string t347) := (zD BK352.out 2).trans rfl; have hcz35_3 : w31.cell? ⟨gb352, 3, none⟩ = some (.slice Ao24 t348.length co24) := (zD BK352.out 3).trans rfl; have hfz35_0 := zH BK352.out 0; have hfz35_1 := zH BK352.out 1; have hfz35_2 := zH BK352.out 2; have hfz35_3 := zH BK352.out 3) | ((with_reducible refine gate_dst (N := 41) rfl ?_); (try (refine gate_guard (by rfl) ?_; dsimp only)); refine Kd.R_lit k50 _ 50 ?hg (N := 41) ?hd (xs := ([(⟨(⟨#[97]⟩ : ByteArray), (⟨#[98]⟩ : ByteArray)⟩ : S50)] : List (S50))) (inner := [.string (⟨#[97]⟩ : ByteArray), .string (⟨#[98]⟩ : ByteArray)]) (ok := fun _ => True) (okp := fun _ => True) ?hr ?hp (fun _ hk => hk) trivial (Below.refl _ _) (Nat.le_refl _) (by simp) ?_; (case hd => rfl); (case hg => rfl); (case hr => first | (go_simp; done) | (go_simp; rfl)); (case hp => exact (Reps.c2 (show Kd.M k50 _ _ _ (⟨(⟨#[97]⟩ : ByteArray), (⟨#[98]⟩ : ByteArray)⟩ : S50) [.string (⟨#[97]⟩ : ByteArray), .string (⟨#[98]⟩ : ByteArray)] from (k50_mkM _ _ _ (⟨(⟨#[97]⟩ : ByteArray), (⟨#[98]⟩ : ByteArray)⟩ : S50) )) (Reps.none _ _))); intro v367 w36 ho37 hb hg_ hnew_; clear hg_ hnew_; (first | rw [← Ny366.out] at ho37 | (simp only [Int.reduceToNat] at ho37; rw [← Ny366.out] at ho37)); have n0_ := Aside0.mk (Kd.R_below (by (with_reducible repeat (first | apply Kd.R_alloc | apply Kd.R_drewN | apply Kd.R_drew)); exact HO338.out) hb); have n1_ := Aside0.mk (Kd.R_below (by (with_reducible repeat (first | apply Kd.R_alloc | apply Kd.R_drewN | apply Kd.R_drew)); exact HO342.out) hb); have n2_ := Aside0.mk (Kd.R_below (by (with_reducible repeat (first | apply Kd.R_alloc | apply Kd.R_drewN | apply Kd.R_drew)); exact HO345.out) hb); have n3_ := Aside0.mk (Kd.R_below (by (with_reducible repeat (first | apply Kd.R_alloc | apply Kd.R_drewN | apply Kd.R_drew)); exact HO350.out) hb); have n4_ := Aside0.mk (Kd.R_below (by (with_reducible repeat (first | apply Kd.R_alloc | apply Kd.R_drewN | apply Kd.R_drew)); exact HO355.out) hb); have n5_ := Aside0.mk (Kd.R_elder' (by (with_reducible repeat (first | apply Kd.R_alloc | apply Kd.R_drewN | apply Kd.R_drew)); exact HO358.out) (Kd.R_base ho37) hb); have n6_ := Aside0.mk (Kd.R_below (by (with_reducible repeat (first | apply Kd.R_alloc | apply Kd.R_drewN | apply Kd.R_drew)); exact HO361.out) hb); have n7_ := Aside0.mk (Kd.R_below (by (with_reducible repeat (first | apply Kd.R_alloc | apply Kd.R_drewN | apply Kd.R_drew)); exact HO364.out) hb); have n8_ := Aside0.mk (Kd.R_lower (Kd.R_new' ho37 (Kd.R_lt (by (with_reducible repeat (first | apply Kd.R_alloc | apply Kd.R_drewN | apply Kd.R_drew)); exact HO358.out))) (zK (by repeat (first | (with_reducible first | exact HB.out | apply zC | apply zA | apply zB | refine zE ?_ GE352.out) | exact HB.out)))); have n9_ := Aside0.mk (zM (g := gb352) (o := .cells #[.slice Ao22 t343.length co22, .string t346, .string t347, .slice Ao24 t348.length co24] 25 (0, 0)) (by (with_reducible repeat (first | refine zG ?_ _ | refine zI ?_ | refine zF ?_ _)); exact BK352.out) hb); have n10_ := Aside0.mk (zL (by repeat (first | (with_reducible first | exact HB.out | apply zC | apply zA | apply zB | refine zE ?_ GE352.out) | exact HB.out)) hb); clear HO338; clear HO342; clear HO345; clear HO350; clear HO355; clear HO358; clear HO361; clear HO364; clear BK352; clear HB; have HO338 := n0_; have HO342 := n1_; have HO345 := n2_; have HO350 := n3_; have HO355 := n4_; have HO358 := n5_; have HO361 := n6_; have HO364 := n7_; have HO368 := n8_; have BK352 := n9_; have HB := n10_; clear n0_ n1_ n2_ n3_ n4_ n5_ n6_ n7_ n8_ n9_ n10_; clear hb ho37; obtain ⟨Ao38, co38, eo38⟩ := Kd.R_slice HO368.out; subst eo38) | (go_at_call 17; (with_reducible refine (grapevineref10_Same.calls k _ _ t356 _ _ y366 true _ ?side1 ?side2 ?side3 ?side4 A10.out).mono ?_); (case side1 => repeat (first | exact (Kd.R_reads' HO358.out).2.2 | (with_reducible refine Kd.C_alloc ?_ _) | (with_reducible refine Kd.C_drewN ?_ _) | (with_reducible refine Kd.C_drew ?_))); (case side2 => exact (Kd.R_reads' HO358.out).2.1); (case side3 => repeat (first | exact (Kd.R_reads' HO368.out).2.2 | (with_reducible refine Kd.C_alloc ?_ _) | (with_reducible refine Kd.C_drewN ?_ _) | (with_reducible refine Kd.C_drew ?_))); (case side4 => exact (Kd.R_reads' HO368.out).2.1); rintro e w' ⟨rfl, ⟨nd, rfl⟩⟩) | ((with_reducible refine gate_dst (N := 47) rfl ?_); (try (refine gate_guard (by rfl) ?_; dsimp only)); refine Kd.R_lit k48 _ 48 ?hg (N := 47) ?hd (xs := ([(⟨(⟨#[97]⟩ : ByteArray), true, (⟨#[]⟩ : ByteArray)⟩ : S48)] : List (S48))) (inner := [.string (⟨#[97]⟩ : ByteArray), .bool true, .string (⟨#[]⟩ : ByteArray)]) (ok := fun _ => True) (okp := fun _ => True) ?hr ?hp (fun _ hk => hk) trivial (Below.refl _ _) (Nat.le_refl _) (by simp) ?_; (case hd => rfl); (case hg => rfl); (case hr => first | (go_simp; done) | (go_simp; rfl)); (case hp => exact (Reps.c3 (show Kd.M k48 _ _ _ (⟨(⟨#[97]⟩ : ByteArray), true, (⟨#[]⟩ : ByteArray)⟩ : S48) [.string (⟨#[97]⟩ : ByteArray), .bool true, .string (⟨#[]⟩ : ByteArray)] from (k48_mkM _ _ _ (⟨(⟨#[97]⟩ : ByteArray), true, (⟨#[]⟩ : ByteArray)⟩ : S48) )) (Reps.none _ _))); intro v371 w39 ho40 hb hg_ hnew_; clear hg_ hnew_; (first | rw [← Ny370.out] at ho40 | (simp only [Int.reduceToNat] at ho40; rw [← Ny370.out] at ho40)); have n0_ := Aside0.mk (Kd.R_below (by (with_reducible repeat (first | apply Kd.R_alloc | apply Kd.R_drewN | apply Kd.R_drew)); exact HO338.out) hb); have n1_ := Aside0.mk (Kd.R_below (by (with_reducible repeat (first | apply Kd.R_alloc | apply Kd.R_drewN | apply Kd.R_drew)); exact HO342.out) hb); have n2_ := Aside0.mk (Kd.R_below (by (with_reducible repeat (first | apply Kd.R_alloc | apply Kd.R_drewN | apply Kd.R_drew)); exact HO345.out) hb); have n3_ := Aside0.mk (Kd.R_elder' (by (with_reducible repeat (first | apply Kd.R_alloc | apply Kd.R_drewN | apply Kd.R_drew)); exact HO350.out) (Kd.R_base ho40) hb); have n4_ := Aside0.mk (Kd.R_elder' (by (with_reducible repeat (first | apply Kd.R_alloc | apply Kd.R_drewN | apply Kd.R_drew)); exact HO355.out) (Kd.R_base ho40) hb); have n5_ := Aside0.mk (Kd.R_below (by (with_reducible repeat (first | apply Kd.R_alloc | apply Kd.R_drewN | apply Kd.R_drew)); exact HO358.out) hb); have n6_ := Aside0.mk (Kd.R_elder' (by (with_reducible repeat (first | apply Kd.R_alloc | apply Kd.R_drewN | apply Kd.R_drew)); exact HO361.out) (Kd.R_base ho40) hb); have n7_ := Aside0.mk (Kd.R_below (by (with_reducible repeat (first | apply Kd.R_alloc | apply Kd.R_drewN | apply Kd.R_drew)); exact HO364.out) hb); have n8_ := Aside0.mk (Kd.R_below (by (with_reducible repeat (first | apply Kd.R_alloc | apply Kd.R_drewN | apply Kd.R_drew)); exact HO368.out) hb); have n9_ := Aside0.mk (Kd.R_lower (Kd.R_new' (Kd.R_new' (Kd.R_new' ho40 (Kd.R_lt (by (with_reducible repeat (first | apply Kd.R_alloc | apply Kd.R_drewN | apply Kd.R_drew)); exact HO350.out))) (Kd.R_lt (by (with_reducible repeat (first | apply Kd.R_alloc | apply Kd.R_drewN | apply Kd.R_drew)); exact HO355.out))) (Kd.R_lt (by (with_reducible repeat (first | apply Kd.R_alloc | apply Kd.R_drewN | apply Kd.R_drew)); exact HO361.out))) (zK (by repeat (first | (with_reducible first | exact HB.out | apply zC | apply zA | apply zB | refine zE ?_ GE352.out) | exact HB.out)))); have n10_ := Aside0.mk (zM (g := gb352) (o := .cells #[.slice Ao22 t343.length co22, .string t346, .string t347, .slice Ao24 t348.length co24] 25 (0, 0)) (by (with_reducible repeat (first | refine zG ?_ _ | refine zI ?_ | refine zF ?_ _)); exact BK352.out) hb); have n11_ := Aside0.mk (zL (by repeat (first | (with_reducible first | exact HB.out | apply zC | apply zA | apply zB | refine zE ?_ GE352.out) | exact HB.out)) hb); clear HO338; clear HO342; clear HO345; clear HO350; clear HO355; clear HO358; clear HO361; clear HO364; clear HO368; clear BK352; clear HB; have HO338 := n0_; have HO342 := n1_; have HO345 := n2_; have HO350 := n3_; have HO355 := n4_; have HO358 := n5_; have HO361 := n6_; have HO364 := n7_; have HO368 := n8_; have HO372 := n9_; have BK352 := n10_; have HB := n11_; clear n0_ n1_ n2_ n3_ n4_ n5_ n6_ n7_ n8_ n9_ n10_ n11_; clear hb ho40; obtain ⟨Ao41, co41, eo41⟩ := Kd.R_slice HO361.out; subst eo41; obtain ⟨Ao42, co42, eo42⟩ := Kd.R_slice HO372.out; subst eo42) | (go_at_call 21; (with_reducible refine (grapevineref12_Changes.calls k _ _ t359 _ _ y370 true _ ?side1 ?side2 ?side3 ?side4 A12.out).mono ?_); (case side1 => repeat (first | exact (Kd.R_reads' HO361.out).2.2 | (with_reducible refine Kd.C_alloc ?_ _) | (with_reducible refine Kd.C_drewN ?_ _) | (with_reducible refine Kd.C_drew ?_))); (case side2 => exact (Kd.R_reads' HO361.out).2.1); (case side3 => repeat (first | exact (Kd.R_reads' HO372.out).2.2 | (with_reducible refine Kd.C_alloc ?_ _) | (with_reducible refine Kd.C_drewN ?_ _) | (with_reducible refine Kd.C_drew ?_))); (case side4 => exact (Kd.R_reads' HO372.out).2.1); rintro e w' ⟨rfl, ⟨nd, rfl⟩⟩) | (go_at_call 12; (refine (patch_Name.calls k _ _ ([] : List ByteArray) (⟨#[]⟩ : ByteArray) (⟨#[]⟩ : ByteArray) _ _ ([] : List (S48)) t374 _ ?side1 ?side2 ?side3 ?side4 (GK.below hG (by repeat (first | (with_reducible first | exact HB.out | apply zC | apply zA | apply zB | refine zE ?_ GE352.out) | exact HB.out))) A14.out).mono ?_); (case side1 => exact Kd.C_nil _ _); (case side2 => exact Nat.le_refl _); (case side3 => exact Kd.C_nil _ _); (case side4 => exact Nat.le_refl _); rintro e w43 ⟨rfl, hb⟩; have n0_ := Aside0.mk (Kd.R_below (by (with_reducible repeat (first | apply Kd.R_alloc | apply Kd.R_drewN | apply Kd.R_drew)); exact HO338.out) hb); have n1_ := Aside0.mk (Kd.R_below (by (with_reducible repeat (first | apply Kd.R_alloc | apply Kd.R_drewN | apply Kd.R_drew)); exact HO342.out) hb); have n2_ := Aside0.mk (Kd.R_below (by (with_reducible repeat (first | apply Kd.R_alloc | apply Kd.R_drewN | apply Kd.R_drew)); exact HO345.out) hb); have n3_ := Aside0.mk (Kd.R_below (by (with_reducible repeat (first | apply Kd.R_alloc | apply Kd.R_drewN | apply Kd.R_drew)); exact HO350.out) hb); have n4_ := Aside0.mk (Kd.R_below (by (with_reducible repeat (first | apply Kd.R_alloc | apply Kd.R_drewN | apply Kd.R_drew)); exact HO355.out) hb); have n5_ := Aside0.mk (Kd.R_below (by (with_reducible repeat (first | apply Kd.R_alloc | apply Kd.R_drewN | apply Kd.R_drew)); exact HO358.out) hb); have n6_ := Aside0.mk (Kd.R_below (by (with_reducible repeat (first | apply Kd.R_alloc | apply Kd.R_drewN | apply Kd.R_drew)); exact HO361.out) hb); have n7_ := Aside0.mk (Kd.R_below (by (with_reducible repeat (first | apply Kd.R_alloc | apply Kd.R_drewN | apply Kd.R_drew)); exact HO364.out) hb); have n8_ := Aside0.mk (Kd.R_below (by (with_reducible repeat (first | apply Kd.R_alloc | apply Kd.R_drewN | apply Kd.R_drew)); exact HO368.out) hb); have n9_ := Aside0.mk (Kd.R_below (by (with_reducible repeat (first | apply Kd.R_alloc | apply Kd.R_drewN | apply Kd.R_drew)); exact HO372.out) hb); have n10_ := Aside0.mk (zM (g := gb352) (o := .cells #[.slice Ao22 t343.length co22, .string t346, .string t347, .slice Ao24 t348.length co24] 25 (0, 0)) (by (with_reducible repeat (first | refine zG ?_ _ | refine zI ?_ | refine zF ?_ _)); exact BK352.out) hb); have n11_ := Aside0.mk (zL (by repeat (first | (with_reducible first | exact HB.out | apply zC | apply zA | apply zB | refine zE ?_ GE352.out) | exact HB.out)) hb); clear HO338; clear HO342; clear HO345; clear HO350; clear HO355; clear HO358; clear HO361; clear HO364; clear HO368; clear HO372; clear BK352; clear HB; have HO338 := n0_; have HO342 := n1_; have HO345 := n2_; have HO350 := n3_; have HO355 := n4_; have HO358 := n5_; have HO361 := n6_; have HO364 := n7_; have HO368 := n8_; have HO372 := n9_; have BK352 := n10_; have HB := n11_; clear n0_ n1_ n2_ n3_ n4_ n5_ n6_ n7_ n8_ n9_ n10_ n11_; (try clear hb); (try clear hb2); (try clear hk); (try clear hi)) | (go_at_call 22; (with_reducible refine (ref_Of.calls _ _ t336 t375 _ ?side1 ?side2 (GK.below hG (by repeat (first | (with_reducible first | exact HB.out | apply zC | apply zA | apply zB | refine zE ?_ GE352.out) | exact HB.out))) A15.out).mono ?_); (case side1 => repeat (first | exact (Kd.R_reads' HO338.out).2.2 | (with_reducible refine Kd.C_alloc ?_ _) | (with_reducible refine Kd.C_drewN ?_ _) | (with_reducible refine Kd.C_drew ?_))); (case side2 => exact (Kd.R_reads' HO338.out).2.1); rintro e w44 ⟨rfl, hb⟩; have n0_ := Aside0.mk (Kd.R_below (by (with_reducible repeat (first | apply Kd.R_alloc | apply Kd.R_drewN | apply Kd.R_drew)); exact HO338.out) hb); have n1_ := Aside0.mk (Kd.R_below (by (with_reducible repeat (first | apply Kd.R_alloc | apply Kd.R_drewN | apply Kd.R_drew)); exact HO342.out) hb); have n2_ := Aside0.mk (Kd.R_below (by (with_reducible repeat (first | apply Kd.R_alloc | apply Kd.R_drewN | apply Kd.R_drew)); exact HO345.out) hb); have n3_ := Aside0.mk (Kd.R_below (by (with_reducible repeat (first | apply Kd.R_alloc | apply Kd.R_drewN | apply Kd.R_drew)); exact HO350.out) hb); have n4_ := Aside0.mk (Kd.R_below (by (with_reducible repeat (first | apply Kd.R_alloc | apply Kd.R_drewN | apply Kd.R_drew)); exact HO355.out) hb); have n5_ := Aside0.mk (Kd.R_below (by (with_reducible repeat (first | apply Kd.R_alloc | apply Kd.R_drewN | apply Kd.R_drew)); exact HO358.out) hb); have n6_ := Aside0.mk (Kd.R_below (by (with_reducible repeat (first | apply Kd.R_alloc | apply Kd.R_drewN | apply Kd.R_drew)); exact HO361.out) hb); have n7_ := Aside0.mk (Kd.R_below (by (with_reducible repeat (first | apply Kd.R_alloc | apply Kd.R_drewN | apply Kd.R_drew)); exact HO364.out) hb); have n8_ := Aside0.mk (Kd.R_below (by (with_reducible repeat (first | apply Kd.R_alloc | apply Kd.R_drewN | apply Kd.R_drew)); exact HO368.out) hb); have n9_ := Aside0.mk (Kd.R_below (by (with_reducible repeat (first | apply Kd.R_alloc | apply Kd.R_drewN | apply Kd.R_drew)); exact HO372.out) hb); have n10_ := Aside0.mk (zM (g := gb352) (o := .cells #[.slice Ao22 t343.length co22, .string t346, .string t347, .slice Ao24 t348.length co24] 25 (0, 0)) (by (with_reducible repeat (first | refine zG ?_ _ | refine zI ?_ | refine zF ?_ _)); exact BK352.out) hb); have n11_ := Aside0.mk (zL (by repeat (first | (with_reducible first | exact HB.out | apply zC | apply zA | apply zB | refine zE ?_ GE352.out) | exact HB.out)) hb); clear HO338; clear HO342; clear HO345; clear HO350; clear HO355; clear HO358; clear HO361; clear HO364; clear HO368; clear HO372; clear BK352; clear HB; have HO338 := n0_; have HO342 := n1_; have HO345 := n2_; have HO350 := n3_; have HO355 := n4_; have HO358 := n5_; have HO361 := n6_; have HO364 := n7_; have HO368 := n8_; have HO372 := n9_; have BK352 := n10_; have HB := n11_; clear n0_ n1_ n2_ n3_ n4_ n5_ n6_ n7_ n8_ n9_ n10_ n11_; (try clear hb); (try clear hb2); (try clear hk); (try clear hi)))
       go_ret
       exact ⟨by first | rfl | (simp [zO, zN] <;> rfl) | (simp [*, zO, zN] <;> rfl), by repeat (first | (with_reducible first | exact HB.out | apply zC | apply zA | apply zB | refine zE ?_ GE352.out) | exact HB.out)⟩
      ·
       replace c13 := Bool.eq_false_iff.mpr c13
       subst c13
       have H1 : (some false) = some r := by rw [if_neg (show ¬ (false = true) by decide)] at H; exact H
       clear H
       have H := H1
       clear H1
       obtain rfl := Option.some.inj H
       exact absurd hrt (by decide)
     ·
      replace c11 := Bool.eq_false_iff.mpr c11
      subst c11
      have H1 : (some false) = some r := by rw [if_neg (show ¬ (false = true) by decide)] at H; exact H
      clear H
      have H := H1
      clear H1
      obtain rfl := Option.some.inj H
      exact absurd hrt (by decide)
    ·
     rw [if_neg c9] at H
     have c9b0 : (t346.toList == ([97] : List UInt8)) = false := beq_eq_false_iff_ne.mpr c9
     have c9b1 : (t346.toList != ([97] : List UInt8)) = true := bne_iff_ne.mpr c9
     obtain rfl := Option.some.inj H
     exact absurd hrt (by decide)
   ·
    rw [if_neg c8] at H
    have c8b0 : (t351 == 0) = false := beq_eq_false_iff_ne.mpr c8
    have c8b1 : (t351 != 0) = true := bne_iff_ne.mpr c8
    obtain rfl := Option.some.inj H
    exact absurd hrt (by decide)
  ·
   replace c7 := Bool.eq_false_iff.mpr c7
   subst c7
   have H1 : (some false) = some r := by rw [if_neg (show ¬ (false = true) by decide)] at H; exact H
   clear H
   have H := H1
   clear H1
   obtain rfl := Option.some.inj H
   exact absurd hrt (by decide)
 ·
  rw [if_neg c5] at H
  have c5b0 : (t339 == 0) = false := beq_eq_false_iff_ne.mpr c5
  have c5b1 : (t339 != 0) = true := bne_iff_ne.mpr c5
  obtain rfl := Option.some.inj H
  exact absurd hrt (by decide)
end Go.Proofs.YtembjjombhfglaaDoor.G
