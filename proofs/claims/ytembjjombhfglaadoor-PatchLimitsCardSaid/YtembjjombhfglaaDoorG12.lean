import Derived.Test.YtembjjombhfglaaDoorG0
import Derived.Test.YtembjjombhfglaaDoorG11
namespace Go.Proofs.YtembjjombhfglaaDoor.G
open Go.RowKit Go.Proofs.YtembjjombhfglaaDoorW.PrintWords Go.Proofs.YtembjjombhfglaaDoorW.PrintLast Go.Proofs.YtembjjombhfglaaDoorW.PrintMore
attribute [local go_sem] max2_int min2_int max_two min_two max_three min_three max_four min_four
set_option linter.unusedVariables false
set_option linter.unusedSimpArgs false
mutual
def grapevineref12_Few.j1 : Nat → Int → List ByteArray → ByteArray → ByteArray → List (S48) → Option (Bool)
 | 0, _, _, _, _, _ => none
 | k + 1, x3, x377000, x377001, x377002, x377003 => grapevineref12_Few.l1 k x3 0 x377000 x377001 x377002 x377003
def grapevineref12_Few.l1 : Nat → Int → Int → List ByteArray → ByteArray → ByteArray → List (S48) → Option (Bool)
 | 0, _, _, _, _, _, _ => none
 | k + 1, x3, x5, x377000, x377001, x377002, x377003 => if x5 < (x377003.length : Int) then (if x5 < 20 then (if 0 ≤ x5 then (grapevineref12_Few.l1 k (wrap64 ((wrap64 (x3 + (mn (((zJ x377003 x5).f0).size : Int) 1000))) + (mn (((zJ x377003 x5).f2).size : Int) 1000))) (wrap64 (x5 + 1)) x377000 x377001 x377002 x377003) else (none)) else (if (x377000.length : Int) ≤ 18 then (if (x377003.length : Int) ≤ 12 then (some (decide (x3 ≤ 1500))) else (some false)) else (some false))) else (if (x377000.length : Int) ≤ 18 then (if (x377003.length : Int) ≤ 12 then (some (decide (x3 ≤ 1500))) else (some false)) else (some false))
def grapevineref12_Few.l0 : Nat → Int → Int → List ByteArray → ByteArray → ByteArray → List (S48) → Option (Bool)
 | 0, _, _, _, _, _, _ => none
 | k + 1, x3, x4, x377000, x377001, x377002, x377003 => if x4 < (x377000.length : Int) then (if x4 < 20 then (if 0 ≤ x4 then (grapevineref12_Few.l0 k (wrap64 (x3 + (mn ((rdOf ByteArray.empty x377000 x4).size : Int) 1000))) (wrap64 (x4 + 1)) x377000 x377001 x377002 x377003) else (none)) else (grapevineref12_Few.j1 k x3 x377000 x377001 x377002 x377003)) else (grapevineref12_Few.j1 k x3 x377000 x377001 x377002 x377003)
end
def grapevineref12_Few.f (k : Nat) (l0_0 : List ByteArray) (a0_1 : ByteArray) (a0_2 : ByteArray) (l0_3 : List (S48)) : Option (Bool) := grapevineref12_Few.l0 k ((mn (a0_1.size : Int) 2000) + (mn (a0_2.size : Int) 2000)) 0 l0_0 a0_1 a0_2 l0_3
set_option maxHeartbeats 8000000 in
set_option maxRecDepth 100000 in
theorem grapevineref12_Few.calls (k : Nat) (A0_0 : Option Addr) (c0_0 : Nat) (l0_0 : List ByteArray) (a0_1 : ByteArray) (a0_2 : ByteArray) (A0_3 : Option Addr) (c0_3 : Nat) (l0_3 : List (S48)) (r : Bool) (w : World) (hr0_0 : Kd.C Kd.string w A0_0 l0_0.length l0_0) (hc0_0 : l0_0.length ≤ c0_0) (hr0_3 : Kd.C k48 w A0_3 l0_3.length l0_3) (hc0_3 : l0_3.length ≤ c0_3) (h : grapevineref12_Few.f k l0_0 a0_1 a0_2 l0_3 = some r) :
  Calls Tryd.prog 8 #[.agg #[.slice A0_0 l0_0.length c0_0, .string a0_1, .string a0_2, .slice A0_3 l0_3.length c0_3]] w fun e w' => e = .returned (.bool r) ∧ Below w.heap.size w w' := by
 have hu25 := Tryd.underlying25
 have HR0_0 := Aside0.mk hr0_0
 have HC0_0 := Aside0.mk hc0_0
 clear hr0_0 hc0_0
 have HR0_3 := Aside0.mk hr0_3
 have HC0_3 := Aside0.mk hc0_3
 clear hr0_3 hc0_3
 have HB := Aside0.mk (Below.refl w.heap.size w)
 have H : (grapevineref12_Few.l0 k ((mn (a0_1.size : Int) 2000) + (mn (a0_2.size : Int) 2000)) 0 l0_0 a0_1 a0_2 l0_3) = some r := h
 clear h
 obtain ⟨ji2, hji2⟩ : ∃ j_ : Int, (mn (a0_1.size : Int) 2000) = j_ := ⟨_, rfl⟩
 replace H : (grapevineref12_Few.l0 k ((ji2) + (mn (a0_2.size : Int) 2000)) 0 l0_0 a0_1 a0_2 l0_3) = some r := by first | (rw [hji2] at H; exact H) | (simp only [hji2] at H ⊢; exact H)
 (try (have hji2h : ji2 ≤ 2000 := by (rw [← hji2]; unfold mn; (repeat' split) <;> omega)))
 (try (have hji2g : ji2 ≤ 64 := by omega))
 (try (have hji2l : 0 ≤ ji2 := by (rw [← hji2]; unfold mn; (repeat' split) <;> omega)))
 (try (have hji2m : 0 ≤ ji2 := by omega))
 have hji2_ : (if 2000 < (a0_1.size : Int) then 2000 else (a0_1.size : Int)) = ji2 := hji2
 obtain ⟨ji3, hji3⟩ : ∃ j_ : Int, (mn (a0_2.size : Int) 2000) = j_ := ⟨_, rfl⟩
 replace H : (grapevineref12_Few.l0 k ((ji2) + (ji3)) 0 l0_0 a0_1 a0_2 l0_3) = some r := by first | (rw [hji3] at H; exact H) | (simp only [hji3] at H ⊢; exact H)
 (try (have hji3h : ji3 ≤ 2000 := by (rw [← hji3]; unfold mn; (repeat' split) <;> omega)))
 (try (have hji3g : ji3 ≤ 64 := by omega))
 (try (have hji3l : 0 ≤ ji3 := by (rw [← hji3]; unfold mn; (repeat' split) <;> omega)))
 (try (have hji3m : 0 ≤ ji3 := by omega))
 have hji3_ : (if 2000 < (a0_2.size : Int) then 2000 else (a0_2.size : Int)) = ji3 := hji3
 have HC4 := Aside0.mk H
 clear H
 go_enter Tryd.func8, Tryd.ntmps8
 go_upto_block 0 with (first | ((with_reducible refine gate_dst (N := 1) rfl ?_); (try (refine gate_guard (by rfl) ?_; dsimp only)); refine box_event ?hg (N := 1) ?hd (cs := #[.slice A0_0 l0_0.length c0_0, .string a0_1, .string a0_2, .slice A0_3 l0_3.length c0_3]) (t := 25) ?hr ?_; (case hd => rfl); (case hg => rfl); (case hr => first | (go_simp; done) | (go_simp; rfl)); intro gb376 hg w5 hbox hb; have n0_ := Aside0.mk (zL (by repeat (first | (with_reducible first | exact HB.out | apply zC | apply zA | apply zB) | exact HB.out)) hb); have n1_ := Aside0.mk (hbox); have n2_ := Aside0.mk ((by rw [hg]; exact (zK (by repeat (first | (with_reducible first | exact HB.out | apply zC | apply zA | apply zB) | exact HB.out))) : w.heap.size ≤ gb376)); have n3_ := Aside0.mk ((by rw [hg]; exact (zK (by repeat (first | (with_reducible first | exact HB.out | apply zC | apply zA | apply zB) | exact HB.out))) : w.heap.size ≤ gb376)); clear HB; have HB := n0_; have BK376 := n1_; have GW376 := n2_; have GE376 := n3_; clear n0_ n1_ n2_ n3_; clear hb hbox hg; have hcz6_0 : w5.cell? ⟨gb376, 0, none⟩ = some (.slice A0_0 l0_0.length c0_0) := (zD BK376.out 0).trans rfl; have hcz6_1 : w5.cell? ⟨gb376, 1, none⟩ = some (.string a0_1) := (zD BK376.out 1).trans rfl; have hcz6_2 : w5.cell? ⟨gb376, 2, none⟩ = some (.string a0_2) := (zD BK376.out 2).trans rfl; have hcz6_3 : w5.cell? ⟨gb376, 3, none⟩ = some (.slice A0_3 l0_3.length c0_3) := (zD BK376.out 3).trans rfl; have hfz6_0 := zH BK376.out 0; have hfz6_1 := zH BK376.out 1; have hfz6_2 := zH BK376.out 2; have hfz6_3 := zH BK376.out 3))
 repeat (go_quiet (first | ((with_reducible refine gate_dst (N := 1) rfl ?_); (try (refine gate_guard (by rfl) ?_; dsimp only)); refine box_event ?hg (N := 1) ?hd (cs := #[.slice A0_0 l0_0.length c0_0, .string a0_1, .string a0_2, .slice A0_3 l0_3.length c0_3]) (t := 25) ?hr ?_; (case hd => rfl); (case hg => rfl); (case hr => first | (go_simp; done) | (go_simp; rfl)); intro gb376 hg w5 hbox hb; have n0_ := Aside0.mk (zL (by repeat (first | (with_reducible first | exact HB.out | apply zC | apply zA | apply zB) | exact HB.out)) hb); have n1_ := Aside0.mk (hbox); have n2_ := Aside0.mk ((by rw [hg]; exact (zK (by repeat (first | (with_reducible first | exact HB.out | apply zC | apply zA | apply zB) | exact HB.out))) : w.heap.size ≤ gb376)); have n3_ := Aside0.mk ((by rw [hg]; exact (zK (by repeat (first | (with_reducible first | exact HB.out | apply zC | apply zA | apply zB) | exact HB.out))) : w.heap.size ≤ gb376)); clear HB; have HB := n0_; have BK376 := n1_; have GW376 := n2_; have GE376 := n3_; clear n0_ n1_ n2_ n3_; clear hb hbox hg; have hcz6_0 : w5.cell? ⟨gb376, 0, none⟩ = some (.slice A0_0 l0_0.length c0_0) := (zD BK376.out 0).trans rfl; have hcz6_1 : w5.cell? ⟨gb376, 1, none⟩ = some (.string a0_1) := (zD BK376.out 1).trans rfl; have hcz6_2 : w5.cell? ⟨gb376, 2, none⟩ = some (.string a0_2) := (zD BK376.out 2).trans rfl; have hcz6_3 : w5.cell? ⟨gb376, 3, none⟩ = some (.slice A0_3 l0_3.length c0_3) := (zD BK376.out 3).trans rfl; have hfz6_0 := zH BK376.out 0; have hfz6_1 := zH BK376.out 1; have hfz6_2 := zH BK376.out 2; have hfz6_3 := zH BK376.out 3)); go_upto_block 0 with (first | ((with_reducible refine gate_dst (N := 1) rfl ?_); (try (refine gate_guard (by rfl) ?_; dsimp only)); refine box_event ?hg (N := 1) ?hd (cs := #[.slice A0_0 l0_0.length c0_0, .string a0_1, .string a0_2, .slice A0_3 l0_3.length c0_3]) (t := 25) ?hr ?_; (case hd => rfl); (case hg => rfl); (case hr => first | (go_simp; done) | (go_simp; rfl)); intro gb376 hg w5 hbox hb; have n0_ := Aside0.mk (zL (by repeat (first | (with_reducible first | exact HB.out | apply zC | apply zA | apply zB) | exact HB.out)) hb); have n1_ := Aside0.mk (hbox); have n2_ := Aside0.mk ((by rw [hg]; exact (zK (by repeat (first | (with_reducible first | exact HB.out | apply zC | apply zA | apply zB) | exact HB.out))) : w.heap.size ≤ gb376)); have n3_ := Aside0.mk ((by rw [hg]; exact (zK (by repeat (first | (with_reducible first | exact HB.out | apply zC | apply zA | apply zB) | exact HB.out))) : w.heap.size ≤ gb376)); clear HB; have HB := n0_; have BK376 := n1_; have GW376 := n2_; have GE376 := n3_; clear n0_ n1_ n2_ n3_; clear hb hbox hg; have hcz6_0 : w5.cell? ⟨gb376, 0, none⟩ = some (.slice A0_0 l0_0.length c0_0) := (zD BK376.out 0).trans rfl; have hcz6_1 : w5.cell? ⟨gb376, 1, none⟩ = some (.string a0_1) := (zD BK376.out 1).trans rfl; have hcz6_2 : w5.cell? ⟨gb376, 2, none⟩ = some (.string a0_2) := (zD BK376.out 2).trans rfl; have hcz6_3 : w5.cell? ⟨gb376, 3, none⟩ = some (.slice A0_3 l0_3.length c0_3) := (zD BK376.out 3).trans rfl; have hfz6_0 := zH BK376.out 0; have hfz6_1 := zH BK376.out 1; have hfz6_2 := zH BK376.out 2; have hfz6_3 := zH BK376.out 3)))
 (try simp only [Act.put, List.setIfInBounds_toArray, List.set_cons_zero, List.set_cons_succ])
 go_cut [3] (fun v3 wc => ∃ (kq : Nat) (x3_3 : Int), v3 = .int .i64 x3_3 ∧ Aside0 (grapevineref12_Few.j1 kq x3_3 l0_0 a0_1 a0_2 l0_3 = some r) ∧ Aside0 (kq ≤ k) ∧ Aside0 (wc.heap[gb376]? = some (.cells #[(.slice A0_0 l0_0.length c0_0), .string a0_1, .string a0_2, (.slice A0_3 l0_3.length c0_3)] 25 (0, 0))) ∧ Aside0 (Below w.heap.size w wc))
 case first =>
  have H := HC4.out
  clear HC4
  have H' := Aside0.mk H
  clear H
  go_wp2
  repeat (go_quiet (fail); try go_wp2)
  go_loopg [3, 4] k (fun kq v3 v4 w' => ∃ (x3_1 : Int) (x4_1 : Int), v3 = .int .i64 x3_1 ∧ v4 = .int .i64 x4_1 ∧ Aside0 (grapevineref12_Few.l0 kq x3_1 x4_1 l0_0 a0_1 a0_2 l0_3 = some r) ∧ Aside0 (kq ≤ k) ∧ Aside0 (w'.heap[gb376]? = some (.cells #[(.slice A0_0 l0_0.length c0_0), .string a0_1, .string a0_2, (.slice A0_3 l0_3.length c0_3)] 25 (0, 0))) ∧ Aside0 (Below w.heap.size w w'))
  case atStart => exact ⟨((ji2) + (ji3)), (0), (by first | rfl | (simp; done) | (simp only [← hji2, ← hji3] <;> (first | rfl | simp)) | (simp [*]; done)), (by first | rfl | (simp; done) | (simp [*]; done)), H', ⟨Nat.le_refl _⟩, ⟨by (with_reducible repeat (first | refine zG ?_ _ | refine zI ?_ | refine zF ?_ _)); exact BK376.out⟩, ⟨by repeat (first | (with_reducible first | exact HB.out | apply zC | apply zA | apply zB | refine zE ?_ GE376.out) | exact HB.out)⟩⟩
  case round =>
   clear H'
   try clear p2
   try clear hcz6_0
   try clear hcz6_1
   try clear hcz6_2
   try clear hcz6_3
   try clear hfz6_0
   try clear hfz6_1
   try clear hfz6_2
   try clear hfz6_3
   obtain ⟨x3_1, x4_1, rfl, rfl, HA, HK1, BK376, HB⟩ := hrel
   cases gk with
   | zero => exact absurd HA.out (by simp [grapevineref12_Few.l0])
   | succ k1 =>
    have H := HA.out
    clear HA
    simp only [grapevineref12_Few.l0] at H
    by_cases c7 : x4_1 < (l0_0.length : Int)
    ·
     rw [if_pos c7] at H
     have c7b0 : decide (x4_1 < (l0_0.length : Int)) = true := decide_eq_true c7
     clear c7
     (first | rw [c7b0] | (simp only [i64_w, i32_w]; rw [c7b0]) | skip)
     by_cases c8 : x4_1 < 20
     ·
      rw [if_pos c8] at H
      have c8b0 : decide (x4_1 < 20) = true := decide_eq_true c8
      clear c8
      by_cases c9 : 0 ≤ x4_1
      ·
       rw [if_pos c9] at H
       have c9b0 : decide (0 ≤ x4_1) = true := decide_eq_true c9
       clear c9
       obtain ⟨ji10, hji10⟩ : ∃ j_ : Int, (mn ((rdOf ByteArray.empty l0_0 x4_1).size : Int) 1000) = j_ := ⟨_, rfl⟩
       replace H : (grapevineref12_Few.l0 k1 (wrap64 (x3_1 + (ji10))) (wrap64 (x4_1 + 1)) l0_0 a0_1 a0_2 l0_3) = some r := by first | (rw [hji10] at H; exact H) | (simp only [hji10] at H ⊢; exact H)
       have hji10_ : (if 1000 < ((rdOf ByteArray.empty l0_0 x4_1).size : Int) then 1000 else ((rdOf ByteArray.empty l0_0 x4_1).size : Int)) = ji10 := hji10
       have H' := Aside0.mk H
       clear H
       have hcz11_0 : wr.cell? ⟨gb376, 0, none⟩ = some (.slice A0_0 l0_0.length c0_0) := (zD BK376.out 0).trans rfl
       have hcz11_1 : wr.cell? ⟨gb376, 1, none⟩ = some (.string a0_1) := (zD BK376.out 1).trans rfl
       have hcz11_2 : wr.cell? ⟨gb376, 2, none⟩ = some (.string a0_2) := (zD BK376.out 2).trans rfl
       have hcz11_3 : wr.cell? ⟨gb376, 3, none⟩ = some (.slice A0_3 l0_3.length c0_3) := (zD BK376.out 3).trans rfl
       have hfz11_0 := zH BK376.out 0
       have hfz11_1 := zH BK376.out 1
       have hfz11_2 := zH BK376.out 2
       have hfz11_3 := zH BK376.out 3
       have p377 : 0 ≤ (x4_1 : Int) := of_decide_eq_true (by first | (with_reducible assumption) | assumption)
       have q377 : x4_1 < (l0_0.length : Int) := of_decide_eq_true (by first | (with_reducible assumption) | assumption)
       obtain ⟨ad377, e377, hx377_0⟩ := Kd.at_string HR0_0.out x4_1 p377 q377
       cases e377
       replace hx377_0 := (HB.out.cell (World.block_lt_of_cell? w _ hx377_0)).trans hx377_0
       replace p377 := eq_true p377
       replace q377 := eq_true q377
       go_wp2
       repeat (go_quiet (fail); try go_wp2)
       go_roundg k1
       case measure => have := HK1.out; omega
       case rel => exact ⟨(wrap64 (x3_1 + (ji10))), (wrap64 (x4_1 + 1)), (by first | rfl | (simp; done) | (simp only [← hji10] <;> (first | rfl | simp)) | (simp [*]; done)), (by first | rfl | (simp; done) | (simp [*]; done)), H', ⟨by have := HK1.out; omega⟩, ⟨by (with_reducible repeat (first | refine zG ?_ _ | refine zI ?_ | refine zF ?_ _)); exact BK376.out⟩, ⟨by repeat (first | (with_reducible first | exact HB.out | apply zC | apply zA | apply zB | refine zE ?_ GE376.out) | exact HB.out)⟩⟩
      ·
       rw [if_neg c9] at H
       exact absurd H (by simp)
     ·
      rw [if_neg c8] at H
      have c8b0 : decide (x4_1 < 20) = false := decide_eq_false c8
      clear c8
      have H' := Aside0.mk H
      clear H
      have hcz12_0 : wr.cell? ⟨gb376, 0, none⟩ = some (.slice A0_0 l0_0.length c0_0) := (zD BK376.out 0).trans rfl
      have hcz12_1 : wr.cell? ⟨gb376, 1, none⟩ = some (.string a0_1) := (zD BK376.out 1).trans rfl
      have hcz12_2 : wr.cell? ⟨gb376, 2, none⟩ = some (.string a0_2) := (zD BK376.out 2).trans rfl
      have hcz12_3 : wr.cell? ⟨gb376, 3, none⟩ = some (.slice A0_3 l0_3.length c0_3) := (zD BK376.out 3).trans rfl
      have hfz12_0 := zH BK376.out 0
      have hfz12_1 := zH BK376.out 1
      have hfz12_2 := zH BK376.out 2
      have hfz12_3 := zH BK376.out 3
      go_wp2
      repeat (go_quiet (fail); try go_wp2)
      go_meet
      case rel => exact ⟨_, (x3_1), (by first | rfl | (simp; done) | (simp [*]; done)), H', ⟨by have := HK1.out; first | omega | exact Nat.le_refl _⟩, ⟨by (with_reducible repeat (first | refine zG ?_ _ | refine zI ?_ | refine zF ?_ _)); exact BK376.out⟩, ⟨by repeat (first | (with_reducible first | exact HB.out | apply zC | apply zA | apply zB | refine zE ?_ GE376.out) | exact HB.out)⟩⟩
    ·
     rw [if_neg c7] at H
     have c7b0 : decide (x4_1 < (l0_0.length : Int)) = false := decide_eq_false c7
     clear c7
     (first | rw [c7b0] | (simp only [i64_w, i32_w]; rw [c7b0]) | skip)
     have H' := Aside0.mk H
     clear H
     have hcz13_0 : wr.cell? ⟨gb376, 0, none⟩ = some (.slice A0_0 l0_0.length c0_0) := (zD BK376.out 0).trans rfl
     have hcz13_1 : wr.cell? ⟨gb376, 1, none⟩ = some (.string a0_1) := (zD BK376.out 1).trans rfl
     have hcz13_2 : wr.cell? ⟨gb376, 2, none⟩ = some (.string a0_2) := (zD BK376.out 2).trans rfl
     have hcz13_3 : wr.cell? ⟨gb376, 3, none⟩ = some (.slice A0_3 l0_3.length c0_3) := (zD BK376.out 3).trans rfl
     have hfz13_0 := zH BK376.out 0
     have hfz13_1 := zH BK376.out 1
     have hfz13_2 := zH BK376.out 2
     have hfz13_3 := zH BK376.out 3
     go_wp2
     repeat (go_quiet (fail); try go_wp2)
     go_meet
     case rel => exact ⟨_, (x3_1), (by first | rfl | (simp; done) | (simp [*]; done)), H', ⟨by have := HK1.out; first | omega | exact Nat.le_refl _⟩, ⟨by (with_reducible repeat (first | refine zG ?_ _ | refine zI ?_ | refine zF ?_ _)); exact BK376.out⟩, ⟨by repeat (first | (with_reducible first | exact HB.out | apply zC | apply zA | apply zB | refine zE ?_ GE376.out) | exact HB.out)⟩⟩
 case rest =>
  clear HC4
  try clear p2
  try clear p3
  try clear q3
  try clear hx3
  try clear p6
  try clear c7
  try clear c7b0
  try clear c8
  try clear c8b0
  try clear c9
  try clear c9b0
  try clear hcz11_0
  try clear hcz11_1
  try clear hcz11_2
  try clear hcz11_3
  try clear hcz12_0
  try clear hcz12_1
  try clear hcz12_2
  try clear hcz12_3
  try clear hcz13_0
  try clear hcz13_1
  try clear hcz13_2
  try clear hcz13_3
  try clear hcz6_0
  try clear hcz6_1
  try clear hcz6_2
  try clear hcz6_3
  try clear hfz11_0
  try clear hfz11_1
  try clear hfz11_2
  try clear hfz11_3
  try clear hfz12_0
  try clear hfz12_1
  try clear hfz12_2
  try clear hfz12_3
  try clear hfz13_0
  try clear hfz13_1
  try clear hfz13_2
  try clear hfz13_3
  try clear hfz6_0
  try clear hfz6_1
  try clear hfz6_2
  try clear hfz6_3
  try clear hx377_0
  try clear p2
  try clear p377
  try clear q377
  obtain ⟨kq, x3_3, rfl, HA, HJ3, BK376, HB⟩ := hcut
  cases kq with
  | zero => exact absurd HA.out (by simp [grapevineref12_Few.j1])
  | succ kj3 =>
   have H := HA.out
   clear HA
   simp only [grapevineref12_Few.j1] at H
   have H' := Aside0.mk H
   clear H
   go_wp2
   repeat (go_quiet (fail); try go_wp2)
   go_loopg [3, 5] kj3 (fun kq v3 v5 w' => ∃ (x3_2 : Int) (x5_2 : Int), v3 = .int .i64 x3_2 ∧ v5 = .int .i64 x5_2 ∧ Aside0 (grapevineref12_Few.l1 kq x3_2 x5_2 l0_0 a0_1 a0_2 l0_3 = some r) ∧ Aside0 (kq ≤ kj3) ∧ Aside0 (w'.heap[gb376]? = some (.cells #[(.slice A0_0 l0_0.length c0_0), .string a0_1, .string a0_2, (.slice A0_3 l0_3.length c0_3)] 25 (0, 0))) ∧ Aside0 (Below w.heap.size w w'))
   case atStart => exact ⟨(x3_3), (0), (by first | rfl | (simp; done) | (simp [*]; done)), (by first | rfl | (simp; done) | (simp [*]; done)), H', ⟨Nat.le_refl _⟩, ⟨by (with_reducible repeat (first | refine zG ?_ _ | refine zI ?_ | refine zF ?_ _)); exact BK376.out⟩, ⟨by repeat (first | (with_reducible first | exact HB.out | apply zC | apply zA | apply zB | refine zE ?_ GE376.out) | exact HB.out)⟩⟩
   case round =>
    clear H'
    try clear p2
    try clear p3
    try clear q3
    try clear hx3
    try clear p6
    try clear c7
    try clear c7b0
    try clear c8
    try clear c8b0
    try clear c9
    try clear c9b0
    try clear hcz11_0
    try clear hcz11_1
    try clear hcz11_2
    try clear hcz11_3
    try clear hcz12_0
    try clear hcz12_1
    try clear hcz12_2
    try clear hcz12_3
    try clear hcz13_0
    try clear hcz13_1
    try clear hcz13_2
    try clear hcz13_3
    try clear hcz6_0
    try clear hcz6_1
    try clear hcz6_2
    try clear hcz6_3
    try clear hfz11_0
    try clear hfz11_1
    try clear hfz11_2
    try clear hfz11_3
    try clear hfz12_0
    try clear hfz12_1
    try clear hfz12_2
    try clear hfz12_3
    try clear hfz13_0
    try clear hfz13_1
    try clear hfz13_2
    try clear hfz13_3
    try clear hfz6_0
    try clear hfz6_1
    try clear hfz6_2
    try clear hfz6_3
    try clear hx377_0
    try clear p2
    try clear p3
    try clear p377
    try clear p6
    try clear q3
    try clear q377
    obtain ⟨x3_2, x5_2, rfl, rfl, HA, HK2, BK376, HB⟩ := hrel
    cases gk with
    | zero => exact absurd HA.out (by simp [grapevineref12_Few.l1])
    | succ k2 =>
     have H := HA.out
     clear HA
     simp only [grapevineref12_Few.l1] at H
     by_cases c14 : x5_2 < (l0_3.length : Int)
     ·
      rw [if_pos c14] at H
      have c14b0 : decide (x5_2 < (l0_3.length : Int)) = true := decide_eq_true c14
      clear c14
      by_cases c15 : x5_2 < 20
      ·
       rw [if_pos c15] at H
       have c15b0 : decide (x5_2 < 20) = true := decide_eq_true c15
       clear c15
       by_cases c16 : 0 ≤ x5_2
       ·
        rw [if_pos c16] at H
        have c16b0 : decide (0 ≤ x5_2) = true := decide_eq_true c16
        clear c16
        obtain ⟨ji17, hji17⟩ : ∃ j_ : Int, (mn (((zJ l0_3 x5_2).f0).size : Int) 1000) = j_ := ⟨_, rfl⟩
        replace H : (grapevineref12_Few.l1 k2 (wrap64 ((wrap64 (x3_2 + (ji17))) + (mn (((zJ l0_3 x5_2).f2).size : Int) 1000))) (wrap64 (x5_2 + 1)) l0_0 a0_1 a0_2 l0_3) = some r := by first | (rw [hji17] at H; exact H) | (simp only [hji17] at H ⊢; exact H)
        have hji17_ : (if 1000 < (((zJ l0_3 x5_2).f0).size : Int) then 1000 else (((zJ l0_3 x5_2).f0).size : Int)) = ji17 := hji17
        obtain ⟨ji18, hji18⟩ : ∃ j_ : Int, (mn (((zJ l0_3 x5_2).f2).size : Int) 1000) = j_ := ⟨_, rfl⟩
        replace H : (grapevineref12_Few.l1 k2 (wrap64 ((wrap64 (x3_2 + (ji17))) + (ji18))) (wrap64 (x5_2 + 1)) l0_0 a0_1 a0_2 l0_3) = some r := by first | (rw [hji18] at H; exact H) | (simp only [hji18] at H ⊢; exact H)
        have hji18_ : (if 1000 < (((zJ l0_3 x5_2).f2).size : Int) then 1000 else (((zJ l0_3 x5_2).f2).size : Int)) = ji18 := hji18
        have H' := Aside0.mk H
        clear H
        have hcz19_0 : wr.cell? ⟨gb376, 0, none⟩ = some (.slice A0_0 l0_0.length c0_0) := (zD BK376.out 0).trans rfl
        have hcz19_1 : wr.cell? ⟨gb376, 1, none⟩ = some (.string a0_1) := (zD BK376.out 1).trans rfl
        have hcz19_2 : wr.cell? ⟨gb376, 2, none⟩ = some (.string a0_2) := (zD BK376.out 2).trans rfl
        have hcz19_3 : wr.cell? ⟨gb376, 3, none⟩ = some (.slice A0_3 l0_3.length c0_3) := (zD BK376.out 3).trans rfl
        have hfz19_0 := zH BK376.out 0
        have hfz19_1 := zH BK376.out 1
        have hfz19_2 := zH BK376.out 2
        have hfz19_3 := zH BK376.out 3
        have p378 : 0 ≤ (x5_2 : Int) := of_decide_eq_true (by first | (with_reducible assumption) | assumption)
        have q378 : x5_2 < (l0_3.length : Int) := of_decide_eq_true (by first | (with_reducible assumption) | assumption)
        obtain ⟨ad378, e378, hx378_0, hx378_1, hx378_2⟩ := at_T48 HR0_3.out x5_2 p378 q378
        cases e378
        replace hx378_0 := (HB.out.cell (World.block_lt_of_cell? w _ hx378_0)).trans hx378_0
        replace hx378_1 := (HB.out.cell (World.block_lt_of_cell? w _ hx378_1)).trans hx378_1
        replace hx378_2 := (HB.out.cell (World.block_lt_of_cell? w _ hx378_2)).trans hx378_2
        replace p378 := eq_true p378
        replace q378 := eq_true q378
        have p379 : 0 ≤ (x5_2 : Int) := of_decide_eq_true (by first | (with_reducible assumption) | assumption)
        have q379 : x5_2 < (l0_3.length : Int) := of_decide_eq_true (by first | (with_reducible assumption) | assumption)
        obtain ⟨ad379, e379, hx379_0, hx379_1, hx379_2⟩ := at_T48 HR0_3.out x5_2 p379 q379
        obtain rfl : ad378 = ad379 := (by injection e379)
        replace hx379_0 := (HB.out.cell (World.block_lt_of_cell? w _ hx379_0)).trans hx379_0
        replace hx379_1 := (HB.out.cell (World.block_lt_of_cell? w _ hx379_1)).trans hx379_1
        replace hx379_2 := (HB.out.cell (World.block_lt_of_cell? w _ hx379_2)).trans hx379_2
        replace p379 := eq_true p379
        replace q379 := eq_true q379
        go_wp2
        repeat (go_quiet (fail); try go_wp2)
        go_roundg k2
        case measure => have := HJ3.out; have := HK2.out; omega
        case rel => exact ⟨(wrap64 ((wrap64 (x3_2 + (ji17))) + (ji18))), (wrap64 (x5_2 + 1)), (by first | rfl | (simp; done) | (simp only [← hji17, ← hji18] <;> (first | rfl | simp)) | (simp [*]; done)), (by first | rfl | (simp; done) | (simp [*]; done)), H', ⟨by have := HJ3.out; have := HK2.out; omega⟩, ⟨by (with_reducible repeat (first | refine zG ?_ _ | refine zI ?_ | refine zF ?_ _)); exact BK376.out⟩, ⟨by repeat (first | (with_reducible first | exact HB.out | apply zC | apply zA | apply zB | refine zE ?_ GE376.out) | exact HB.out)⟩⟩
       ·
        rw [if_neg c16] at H
        exact absurd H (by simp)
      ·
       rw [if_neg c15] at H
       have c15b0 : decide (x5_2 < 20) = false := decide_eq_false c15
       clear c15
       by_cases c20 : (l0_0.length : Int) ≤ 18
       ·
        rw [if_pos c20] at H
        have c20b0 : decide ((l0_0.length : Int) ≤ 18) = true := decide_eq_true c20
        have c20b1 : decide (l0_0.length ≤ 18) = true := decide_eq_true (by omega)
        clear c20
        by_cases c21 : (l0_3.length : Int) ≤ 12
        ·
         rw [if_pos c21] at H
         have c21b0 : decide ((l0_3.length : Int) ≤ 12) = true := decide_eq_true c21
         have c21b1 : decide (l0_3.length ≤ 12) = true := decide_eq_true (by omega)
         clear c21
         obtain rfl := Option.some.inj H
         have hcz22_0 : wr.cell? ⟨gb376, 0, none⟩ = some (.slice A0_0 l0_0.length c0_0) := (zD BK376.out 0).trans rfl
         have hcz22_1 : wr.cell? ⟨gb376, 1, none⟩ = some (.string a0_1) := (zD BK376.out 1).trans rfl
         have hcz22_2 : wr.cell? ⟨gb376, 2, none⟩ = some (.string a0_2) := (zD BK376.out 2).trans rfl
         have hcz22_3 : wr.cell? ⟨gb376, 3, none⟩ = some (.slice A0_3 l0_3.length c0_3) := (zD BK376.out 3).trans rfl
         have hfz22_0 := zH BK376.out 0
         have hfz22_1 := zH BK376.out 1
         have hfz22_2 := zH BK376.out 2
         have hfz22_3 := zH BK376.out 3
         go_wp2
         repeat (go_quiet (fail); try go_wp2)
         go_ret
         exact ⟨by first | rfl | (simp [zO, zN] <;> rfl) | (simp only [← hji2, ← hji3]; first | rfl | (simp [zO, zN] <;> rfl)) | (simp [*, zO, zN] <;> rfl), by repeat (first | (with_reducible first | exact HB.out | apply zC | apply zA | apply zB | refine zE ?_ GE376.out) | exact HB.out)⟩
        ·
         rw [if_neg c21] at H
         have c21b0 : decide ((l0_3.length : Int) ≤ 12) = false := decide_eq_false c21
         have c21b1 : decide (l0_3.length ≤ 12) = false := decide_eq_false (by omega)
         clear c21
         obtain rfl := Option.some.inj H
         have hcz23_0 : wr.cell? ⟨gb376, 0, none⟩ = some (.slice A0_0 l0_0.length c0_0) := (zD BK376.out 0).trans rfl
         have hcz23_1 : wr.cell? ⟨gb376, 1, none⟩ = some (.string a0_1) := (zD BK376.out 1).trans rfl
         have hcz23_2 : wr.cell? ⟨gb376, 2, none⟩ = some (.string a0_2) := (zD BK376.out 2).trans rfl
         have hcz23_3 : wr.cell? ⟨gb376, 3, none⟩ = some (.slice A0_3 l0_3.length c0_3) := (zD BK376.out 3).trans rfl
         have hfz23_0 := zH BK376.out 0
         have hfz23_1 := zH BK376.out 1
         have hfz23_2 := zH BK376.out 2
         have hfz23_3 := zH BK376.out 3
         go_wp2
         repeat (go_quiet (fail); try go_wp2)
         go_ret
         exact ⟨by first | rfl | (simp [zO, zN] <;> rfl) | (simp only [← hji2, ← hji3]; first | rfl | (simp [zO, zN] <;> rfl)) | (simp [*, zO, zN] <;> rfl), by repeat (first | (with_reducible first | exact HB.out | apply zC | apply zA | apply zB | refine zE ?_ GE376.out) | exact HB.out)⟩
       ·
        rw [if_neg c20] at H
        have c20b0 : decide ((l0_0.length : Int) ≤ 18) = false := decide_eq_false c20
        have c20b1 : decide (l0_0.length ≤ 18) = false := decide_eq_false (by omega)
        clear c20
        obtain rfl := Option.some.inj H
        have hcz24_0 : wr.cell? ⟨gb376, 0, none⟩ = some (.slice A0_0 l0_0.length c0_0) := (zD BK376.out 0).trans rfl
        have hcz24_1 : wr.cell? ⟨gb376, 1, none⟩ = some (.string a0_1) := (zD BK376.out 1).trans rfl
        have hcz24_2 : wr.cell? ⟨gb376, 2, none⟩ = some (.string a0_2) := (zD BK376.out 2).trans rfl
        have hcz24_3 : wr.cell? ⟨gb376, 3, none⟩ = some (.slice A0_3 l0_3.length c0_3) := (zD BK376.out 3).trans rfl
        have hfz24_0 := zH BK376.out 0
        have hfz24_1 := zH BK376.out 1
        have hfz24_2 := zH BK376.out 2
        have hfz24_3 := zH BK376.out 3
        go_wp2
        repeat (go_quiet (fail); try go_wp2)
        go_ret
        exact ⟨by first | rfl | (simp [zO, zN] <;> rfl) | (simp only [← hji2, ← hji3]; first | rfl | (simp [zO, zN] <;> rfl)) | (simp [*, zO, zN] <;> rfl), by repeat (first | (with_reducible first | exact HB.out | apply zC | apply zA | apply zB | refine zE ?_ GE376.out) | exact HB.out)⟩
     ·
      rw [if_neg c14] at H
      have c14b0 : decide (x5_2 < (l0_3.length : Int)) = false := decide_eq_false c14
      clear c14
      by_cases c25 : (l0_0.length : Int) ≤ 18
      ·
       rw [if_pos c25] at H
       have c25b0 : decide ((l0_0.length : Int) ≤ 18) = true := decide_eq_true c25
       have c25b1 : decide (l0_0.length ≤ 18) = true := decide_eq_true (by omega)
       clear c25
       by_cases c26 : (l0_3.length : Int) ≤ 12
       ·
        rw [if_pos c26] at H
        have c26b0 : decide ((l0_3.length : Int) ≤ 12) = true := decide_eq_true c26
        have c26b1 : decide (l0_3.length ≤ 12) = true := decide_eq_true (by omega)
        clear c26
        obtain rfl := Option.some.inj H
        have hcz27_0 : wr.cell? ⟨gb376, 0, none⟩ = some (.slice A0_0 l0_0.length c0_0) := (zD BK376.out 0).trans rfl
        have hcz27_1 : wr.cell? ⟨gb376, 1, none⟩ = some (.string a0_1) := (zD BK376.out 1).trans rfl
        have hcz27_2 : wr.cell? ⟨gb376, 2, none⟩ = some (.string a0_2) := (zD BK376.out 2).trans rfl
        have hcz27_3 : wr.cell? ⟨gb376, 3, none⟩ = some (.slice A0_3 l0_3.length c0_3) := (zD BK376.out 3).trans rfl
        have hfz27_0 := zH BK376.out 0
        have hfz27_1 := zH BK376.out 1
        have hfz27_2 := zH BK376.out 2
        have hfz27_3 := zH BK376.out 3
        go_wp2
        repeat (go_quiet (fail); try go_wp2)
        go_ret
        exact ⟨by first | rfl | (simp [zO, zN] <;> rfl) | (simp only [← hji2, ← hji3]; first | rfl | (simp [zO, zN] <;> rfl)) | (simp [*, zO, zN] <;> rfl), by repeat (first | (with_reducible first | exact HB.out | apply zC | apply zA | apply zB | refine zE ?_ GE376.out) | exact HB.out)⟩
       ·
        rw [if_neg c26] at H
        have c26b0 : decide ((l0_3.length : Int) ≤ 12) = false := decide_eq_false c26
        have c26b1 : decide (l0_3.length ≤ 12) = false := decide_eq_false (by omega)
        clear c26
        obtain rfl := Option.some.inj H
        have hcz28_0 : wr.cell? ⟨gb376, 0, none⟩ = some (.slice A0_0 l0_0.length c0_0) := (zD BK376.out 0).trans rfl
        have hcz28_1 : wr.cell? ⟨gb376, 1, none⟩ = some (.string a0_1) := (zD BK376.out 1).trans rfl
        have hcz28_2 : wr.cell? ⟨gb376, 2, none⟩ = some (.string a0_2) := (zD BK376.out 2).trans rfl
        have hcz28_3 : wr.cell? ⟨gb376, 3, none⟩ = some (.slice A0_3 l0_3.length c0_3) := (zD BK376.out 3).trans rfl
        have hfz28_0 := zH BK376.out 0
        have hfz28_1 := zH BK376.out 1
        have hfz28_2 := zH BK376.out 2
        have hfz28_3 := zH BK376.out 3
        go_wp2
        repeat (go_quiet (fail); try go_wp2)
        go_ret
        exact ⟨by first | rfl | (simp [zO, zN] <;> rfl) | (simp only [← hji2, ← hji3]; first | rfl | (simp [zO, zN] <;> rfl)) | (simp [*, zO, zN] <;> rfl), by repeat (first | (with_reducible first | exact HB.out | apply zC | apply zA | apply zB | refine zE ?_ GE376.out) | exact HB.out)⟩
      ·
       rw [if_neg c25] at H
       have c25b0 : decide ((l0_0.length : Int) ≤ 18) = false := decide_eq_false c25
       have c25b1 : decide (l0_0.length ≤ 18) = false := decide_eq_false (by omega)
       clear c25
       obtain rfl := Option.some.inj H
       have hcz29_0 : wr.cell? ⟨gb376, 0, none⟩ = some (.slice A0_0 l0_0.length c0_0) := (zD BK376.out 0).trans rfl
       have hcz29_1 : wr.cell? ⟨gb376, 1, none⟩ = some (.string a0_1) := (zD BK376.out 1).trans rfl
       have hcz29_2 : wr.cell? ⟨gb376, 2, none⟩ = some (.string a0_2) := (zD BK376.out 2).trans rfl
       have hcz29_3 : wr.cell? ⟨gb376, 3, none⟩ = some (.slice A0_3 l0_3.length c0_3) := (zD BK376.out 3).trans rfl
       have hfz29_0 := zH BK376.out 0
       have hfz29_1 := zH BK376.out 1
       have hfz29_2 := zH BK376.out 2
       have hfz29_3 := zH BK376.out 3
       go_wp2
       repeat (go_quiet (fail); try go_wp2)
       go_ret
       exact ⟨by first | rfl | (simp [zO, zN] <;> rfl) | (simp only [← hji2, ← hji3]; first | rfl | (simp [zO, zN] <;> rfl)) | (simp [*, zO, zN] <;> rfl), by repeat (first | (with_reducible first | exact HB.out | apply zC | apply zA | apply zB | refine zE ?_ GE376.out) | exact HB.out)⟩
def grapevineref01_Ids.l0 : Nat → List ByteArray → List ByteArray → Int → Option (Bool)
 | 0, _, _, _ => none
 | k + 1, x0, x1, x5 => if x5 < (x0.length : Int) then (if 0 ≤ x5 then (if x5 < (x1.length : Int) then (if (rdOf ByteArray.empty x0 x5).toList = (rdOf ByteArray.empty x1 x5).toList then (grapevineref01_Ids.l0 k x0 x1 (wrap64 (x5 + 1))) else (some false)) else (none)) else (none)) else (some true)
def grapevineref01_Ids.f (k : Nat) (l0 : List ByteArray) (l1 : List ByteArray) : Option (Bool) := if (l0.length : Int) = (l1.length : Int) then (grapevineref01_Ids.l0 k l0 l1 0) else (some false)
set_option maxHeartbeats 8000000 in
set_option maxRecDepth 100000 in
theorem grapevineref01_Ids.calls (k : Nat) (A0 : Option Addr) (c0 : Nat) (l0 : List ByteArray) (A1 : Option Addr) (c1 : Nat) (l1 : List ByteArray) (r : Bool) (w : World) (hr0 : Kd.C Kd.string w A0 l0.length l0) (hc0 : l0.length ≤ c0) (hr1 : Kd.C Kd.string w A1 l1.length l1) (hc1 : l1.length ≤ c1) (h : grapevineref01_Ids.f k l0 l1 = some r) :
  Calls Tryd.prog 27 #[.slice A0 l0.length c0, .slice A1 l1.length c1] w fun e w' => e = .returned (.bool r) ∧ Drawn0 w w' := by
 have HR0 := Aside0.mk hr0
 have HC0 := Aside0.mk hc0
 clear hr0 hc0
 have HR1 := Aside0.mk hr1
 have HC1 := Aside0.mk hc1
 clear hr1 hc1
 have H : (if (l0.length : Int) = (l1.length : Int) then (grapevineref01_Ids.l0 k l0 l1 0) else (some false)) = some r := h
 clear h
 by_cases c3 : (l0.length : Int) = (l1.length : Int)
 ·
  rw [if_pos c3] at H
  have c3b0 : ((l0.length : Int) == (l1.length : Int)) = true := beq_iff_eq.mpr c3
  have c3b1 : ((l0.length : Int) != (l1.length : Int)) = false := bne_eq_false_iff_eq.mpr c3
  have c3b2 : (l0.length == l1.length) = true := by first | simpa using c3 | (simp at c3 ⊢; omega)
  clear c3
  have H' := Aside0.mk H
  clear H
  go_enter Tryd.func27, Tryd.ntmps27
  go_wp2
  repeat (go_quiet (fail); try go_wp2)
  go_loopg [5] k (fun kq v5 w' => ∃ (x5_1 : Int), v5 = .int .i64 x5_1 ∧ Aside0 (grapevineref01_Ids.l0 kq l0 l1 x5_1 = some r) ∧ Aside0 (kq ≤ k) ∧ Drawn0 w w')
  case atStart => exact ⟨(0), (by first | rfl | (simp; done) | (simp [*]; done)), H', ⟨Nat.le_refl _⟩, by repeat (first | exact Drawn0.refl _ | apply Drawn0.step)⟩
  case round =>
   clear H'
   try clear c1
   try clear c2
   try clear p2
   try clear c3
   try clear c3b0
   try clear c3b1
   try clear c3b2
   obtain ⟨x5_1, rfl, HA, HK1, ⟨m1, rfl⟩⟩ := hrel
   cases gk with
   | zero => exact absurd HA.out (by simp [grapevineref01_Ids.l0])
   | succ k1 =>
    have H := HA.out
    clear HA
    simp only [grapevineref01_Ids.l0] at H
    by_cases c4 : x5_1 < (l0.length : Int)
    ·
     rw [if_pos c4] at H
     have c4b0 : decide (x5_1 < (l0.length : Int)) = true := decide_eq_true c4
     clear c4
     by_cases c5 : 0 ≤ x5_1
     ·
      rw [if_pos c5] at H
      have c5b0 : decide (0 ≤ x5_1) = true := decide_eq_true c5
      clear c5
      by_cases c6 : x5_1 < (l1.length : Int)
      ·
       rw [if_pos c6] at H
       have c6b0 : decide (x5_1 < (l1.length : Int)) = true := decide_eq_true c6
       clear c6
       by_cases c7 : (rdOf ByteArray.empty l0 x5_1).toList = (rdOf ByteArray.empty l1 x5_1).toList
       ·
        rw [if_pos c7] at H
        have c7b0 : ((rdOf ByteArray.empty l0 x5_1).toList == (rdOf ByteArray.empty l1 x5_1).toList) = true := beq_iff_eq.mpr c7
        have c7b1 : ((rdOf ByteArray.empty l0 x5_1).toList != (rdOf ByteArray.empty l1 x5_1).toList) = false := bne_eq_false_iff_eq.mpr c7
        clear c7
        have H' := Aside0.mk H
        clear H
        have p380 : 0 ≤ (x5_1 : Int) := of_decide_eq_true (by first | (with_reducible assumption) | assumption)
        have q380 : x5_1 < (l0.length : Int) := of_decide_eq_true (by first | (with_reducible assumption) | assumption)
        obtain ⟨ad380, e380, hx380_0⟩ := Kd.at_string HR0.out x5_1 p380 q380
        cases e380
        replace p380 := eq_true p380
        replace q380 := eq_true q380
        have p381 : 0 ≤ (x5_1 : Int) := of_decide_eq_true (by first | (with_reducible assumption) | assumption)
        have q381 : x5_1 < (l1.length : Int) := of_decide_eq_true (by first | (with_reducible assumption) | assumption)
        obtain ⟨ad381, e381, hx381_0⟩ := Kd.at_string HR1.out x5_1 p381 q381
        cases e381
        replace p381 := eq_true p381
        replace q381 := eq_true q381
        go_wp2
        repeat (go_quiet (fail); try go_wp2)
        go_roundg k1
        case measure => have := HK1.out; omega
        case rel => exact ⟨(wrap64 (x5_1 + 1)), (by first | rfl | (simp; done) | (simp [*]; done)), H', ⟨by have := HK1.out; omega⟩, by repeat (first | exact Drawn0.refl _ | apply Drawn0.step)⟩
       ·
        rw [if_neg c7] at H
        have c7b0 : ((rdOf ByteArray.empty l0 x5_1).toList == (rdOf ByteArray.empty l1 x5_1).toList) = false := beq_eq_false_iff_ne.mpr c7
        have c7b1 : ((rdOf ByteArray.empty l0 x5_1).toList != (rdOf ByteArray.empty l1 x5_1).toList) = true := bne_iff_ne.mpr c7
        obtain rfl := Option.some.inj H
        have p380 : 0 ≤ (x5_1 : Int) := of_decide_eq_true (by first | (with_reducible assumption) | assumption)
        have q380 : x5_1 < (l0.length : Int) := of_decide_eq_true (by first | (with_reducible assumption) | assumption)
        obtain ⟨ad380, e380, hx380_0⟩ := Kd.at_string HR0.out x5_1 p380 q380
        cases e380
        replace p380 := eq_true p380
        replace q380 := eq_true q380
        have p381 : 0 ≤ (x5_1 : Int) := of_decide_eq_true (by first | (with_reducible assumption) | assumption)
        have q381 : x5_1 < (l1.length : Int) := of_decide_eq_true (by first | (with_reducible assumption) | assumption)
        obtain ⟨ad381, e381, hx381_0⟩ := Kd.at_string HR1.out x5_1 p381 q381
        cases e381
        replace p381 := eq_true p381
        replace q381 := eq_true q381
        go_wp2
        repeat (go_quiet (fail); try go_wp2)
        go_ret
        exact ⟨by first | rfl | (simp; done) | (simp [*]; done), by repeat (first | exact Drawn0.refl _ | apply Drawn0.step)⟩
      ·
       rw [if_neg c6] at H
       exact absurd H (by simp)
     ·
      rw [if_neg c5] at H
      exact absurd H (by simp)
    ·
     rw [if_neg c4] at H
     have c4b0 : decide (x5_1 < (l0.length : Int)) = false := decide_eq_false c4
     clear c4
     obtain rfl := Option.some.inj H
     go_wp2
     repeat (go_quiet (fail); try go_wp2)
     go_ret
     exact ⟨by first | rfl | (simp; done) | (simp [*]; done), by repeat (first | exact Drawn0.refl _ | apply Drawn0.step)⟩
 ·
  rw [if_neg c3] at H
  have c3b0 : ((l0.length : Int) == (l1.length : Int)) = false := beq_eq_false_iff_ne.mpr c3
  have c3b1 : ((l0.length : Int) != (l1.length : Int)) = true := bne_iff_ne.mpr c3
  have c3b2 : (l0.length == l1.length) = false := by first | simpa using c3 | (simp at c3 ⊢; omega)
  obtain rfl := Option.some.inj H
  go_enter Tryd.func27, Tryd.ntmps27
  go_wp2
  repeat (go_quiet (fail); try go_wp2)
  go_ret
  exact ⟨by first | rfl | (simp; done) | (simp [*]; done), by repeat (first | exact Drawn0.refl _ | apply Drawn0.step)⟩
def grapevineref12_Same.f (k : Nat) (l0_0 : List ByteArray) (a0_1 : ByteArray) (a0_2 : ByteArray) (l0_3 : List (S48)) (l1_0 : List ByteArray) (a1_1 : ByteArray) (a1_2 : ByteArray) (l1_3 : List (S48)) : Option (Bool) := (grapevineref01_Ids.f k l0_0 l1_0).bind fun t384 => (if t384 = true then (if a0_1.toList = a1_1.toList then (if a0_2.toList = a1_2.toList then ((grapevineref12_Changes.f k l0_3 l1_3).bind fun t385 => (some t385)) else (some false)) else (some false)) else (some false))
set_option maxHeartbeats 8000000 in
set_option maxRecDepth 100000 in
theorem grapevineref12_Same.calls (k : Nat) (A0_0 : Option Addr) (c0_0 : Nat) (l0_0 : List ByteArray) (a0_1 : ByteArray) (a0_2 : ByteArray) (A0_3 : Option Addr) (c0_3 : Nat) (l0_3 : List (S48)) (A1_0 : Option Addr) (c1_0 : Nat) (l1_0 : List ByteArray) (a1_1 : ByteArray) (a1_2 : ByteArray) (A1_3 : Option Addr) (c1_3 : Nat) (l1_3 : List (S48)) (r : Bool) (w : World) (hr0_0 : Kd.C Kd.string w A0_0 l0_0.length l0_0) (hc0_0 : l0_0.length ≤ c0_0) (hr0_3 : Kd.C k48 w A0_3 l0_3.length l0_3) (hc0_3 : l0_3.length ≤ c0_3) (hr1_0 : Kd.C Kd.string w A1_0 l1_0.length l1_0) (hc1_0 : l1_0.length ≤ c1_0) (hr1_3 : Kd.C k48 w A1_3 l1_3.length l1_3) (hc1_3 : l1_3.length ≤ c1_3) (h : grapevineref12_Same.f k l0_0 a0_1 a0_2 l0_3 l1_0 a1_1 a1_2 l1_3 = some r) :
  Calls Tryd.prog 11 #[.agg #[.slice A0_0 l0_0.length c0_0, .string a0_1, .string a0_2, .slice A0_3 l0_3.length c0_3], .agg #[.slice A1_0 l1_0.length c1_0, .string a1_1, .string a1_2, .slice A1_3 l1_3.length c1_3]] w fun e w' => e = .returned (.bool r) ∧ Below w.heap.size w w' := by
 have hu25 := Tryd.underlying25
 have HR0_0 := Aside0.mk hr0_0
 have HC0_0 := Aside0.mk hc0_0
 clear hr0_0 hc0_0
 have HR0_3 := Aside0.mk hr0_3
 have HC0_3 := Aside0.mk hc0_3
 clear hr0_3 hc0_3
 have HR1_0 := Aside0.mk hr1_0
 have HC1_0 := Aside0.mk hc1_0
 clear hr1_0 hc1_0
 have HR1_3 := Aside0.mk hr1_3
 have HC1_3 := Aside0.mk hc1_3
 clear hr1_3 hc1_3
 have HB := Aside0.mk (Below.refl w.heap.size w)
 have H : ((grapevineref01_Ids.f k l0_0 l1_0).bind fun t384 => (if t384 = true then (if a0_1.toList = a1_1.toList then (if a0_2.toList = a1_2.toList then ((grapevineref12_Changes.f k l0_3 l1_3).bind fun t385 => (some t385)) else (some false)) else (some false)) else (some false))) = some r := h
 clear h
 replace H := Option.bind_eq_some_iff.mp H
 obtain ⟨t384, A30, H⟩ := H
 replace H : (if t384 = true then (if a0_1.toList = a1_1.toList then (if a0_2.toList = a1_2.toList then ((grapevineref12_Changes.f k l0_3 l1_3).bind fun t385 => (some t385)) else (some false)) else (some false)) else (some false)) = some r := H
 have A3 := Aside0.mk A30
 clear A30
 by_cases c4 : t384 = true
 ·
  subst c4
  have H1 : (if a0_1.toList = a1_1.toList then (if a0_2.toList = a1_2.toList then ((grapevineref12_Changes.f k l0_3 l1_3).bind fun t385 => (some t385)) else (some false)) else (some false)) = some r := by rw [if_pos rfl] at H; exact H
  clear H
  have H := H1
  clear H1
  by_cases c5 : a0_1.toList = a1_1.toList
  ·
   rw [if_pos c5] at H
   have c5b0 : (a0_1.toList == a1_1.toList) = true := beq_iff_eq.mpr c5
   have c5b1 : (a0_1.toList != a1_1.toList) = false := bne_eq_false_iff_eq.mpr c5
   clear c5
   by_cases c6 : a0_2.toList = a1_2.toList
   ·
    rw [if_pos c6] at H
    have c6b0 : (a0_2.toList == a1_2.toList) = true := beq_iff_eq.mpr c6
    have c6b1 : (a0_2.toList != a1_2.toList) = false := bne_eq_false_iff_eq.mpr c6
    clear c6
    replace H := Option.bind_eq_some_iff.mp H
    obtain ⟨t385, A70, H⟩ := H
    replace H : (some t385) = some r := H
    have A7 := Aside0.mk A70
    clear A70
    obtain rfl := Option.some.inj H
    go_enter Tryd.func11, Tryd.ntmps11
    go_wp2_with (first | ((with_reducible refine gate_dst (N := 2) rfl ?_); refine box_event ?hg (N := 2) ?hd (cs := #[.slice A0_0 l0_0.length c0_0, .string a0_1, .string a0_2, .slice A0_3 l0_3.length c0_3]) (t := 25) ?hr ?_; (case hd => rfl); (case hg => rfl); (case hr => first | (go_simp; done) | (go_simp; rfl)); intro gb382 hg w8 hbox hb; have n0_ := Aside0.mk (zL (by repeat (first | (with_reducible first | exact HB.out | apply zC | apply zA | apply zB) | exact HB.out)) hb); have n1_ := Aside0.mk (hbox); have n2_ := Aside0.mk ((by rw [hg]; exact (zK (by repeat (first | (with_reducible first | exact HB.out | apply zC | apply zA | apply zB) | exact HB.out))) : w.heap.size ≤ gb382)); have n3_ := Aside0.mk ((by rw [hg]; exact (zK (by repeat (first | (with_reducible first | exact HB.out | apply zC | apply zA | apply zB) | exact HB.out))) : w.heap.size ≤ gb382)); clear HB; have HB := n0_; have BK382 := n1_; have GW382 := n2_; have GE382 := n3_; clear n0_ n1_ n2_ n3_; clear hb hbox hg) | ((with_reducible refine gate_dst (N := 3) rfl ?_); refine box_event ?hg (N := 3) ?hd (cs := #[.slice A1_0 l1_0.length c1_0, .string a1_1, .string a1_2, .slice A1_3 l1_3.length c1_3]) (t := 25) ?hr ?_; (case hd => rfl); (case hg => rfl); (case hr => first | (go_simp; done) | (go_simp; rfl)); intro gb383 hg w9 hbox hb; have n0_ := Aside0.mk (zM (g := gb382) (o := .cells #[.slice A0_0 l0_0.length c0_0, .string a0_1, .string a0_2, .slice A0_3 l0_3.length c0_3] 25 (0, 0)) (by (with_reducible repeat (first | refine zG ?_ _ | refine zI ?_ | refine zF ?_ _)); exact BK382.out) hb); have n1_ := Aside0.mk (zL (by repeat (first | (with_reducible first | exact HB.out | apply zC | apply zA | apply zB | refine zE ?_ GE382.out) | exact HB.out)) hb); have n2_ := Aside0.mk (hbox); have n3_ := Aside0.mk ((by rw [hg]; exact (zK (by repeat (first | (with_reducible first | exact HB.out | apply zC | apply zA | apply zB | refine zE ?_ GE382.out) | exact HB.out))) : w.heap.size ≤ gb383)); have n4_ := Aside0.mk ((by rw [hg]; exact (zK (by repeat (first | (with_reducible first | exact HB.out | apply zC | apply zA | apply zB | refine zE ?_ GE382.out) | exact HB.out))) : w.heap.size ≤ gb383)); have n5_ := Aside0.mk ((by rw [hg]; exact Nat.ne_of_lt (blk_lt (g := gb382) (o := .cells #[.slice A0_0 l0_0.length c0_0, .string a0_1, .string a0_2, .slice A0_3 l0_3.length c0_3] 25 (0, 0)) (by (with_reducible repeat (first | refine zG ?_ _ | refine zI ?_ | refine zF ?_ _)); exact BK382.out)) : gb382 ≠ gb383)); have n6_ := Aside0.mk ((by rw [hg]; exact Nat.ne_of_gt (blk_lt (g := gb382) (o := .cells #[.slice A0_0 l0_0.length c0_0, .string a0_1, .string a0_2, .slice A0_3 l0_3.length c0_3] 25 (0, 0)) (by (with_reducible repeat (first | refine zG ?_ _ | refine zI ?_ | refine zF ?_ _)); exact BK382.out)) : gb383 ≠ gb382)); clear BK382; clear HB; have BK382 := n0_; have HB := n1_; have BK383 := n2_; have GW383 := n3_; have GE383 := n4_; have NB382_383 := n5_; have NB383_382 := n6_; clear n0_ n1_ n2_ n3_ n4_ n5_ n6_; clear hb hbox hg; have hnb10 := NB382_383.out; have hnc10 := NB383_382.out; have hcz11_0 : w9.cell? ⟨gb382, 0, none⟩ = some (.slice A0_0 l0_0.length c0_0) := (zD BK382.out 0).trans rfl; have hcz11_1 : w9.cell? ⟨gb382, 1, none⟩ = some (.string a0_1) := (zD BK382.out 1).trans rfl; have hcz11_2 : w9.cell? ⟨gb382, 2, none⟩ = some (.string a0_2) := (zD BK382.out 2).trans rfl; have hcz11_3 : w9.cell? ⟨gb382, 3, none⟩ = some (.slice A0_3 l0_3.length c0_3) := (zD BK382.out 3).trans rfl; have hfz11_0 := zH BK382.out 0; have hfz11_1 := zH BK382.out 1; have hfz11_2 := zH BK382.out 2; have hfz11_3 := zH BK382.out 3; have hcz12_0 : w9.cell? ⟨gb383, 0, none⟩ = some (.slice A1_0 l1_0.length c1_0) := (zD BK383.out 0).trans rfl; have hcz12_1 : w9.cell? ⟨gb383, 1, none⟩ = some (.string a1_1) := (zD BK383.out 1).trans rfl; have hcz12_2 : w9.cell? ⟨gb383, 2, none⟩ = some (.string a1_2) := (zD BK383.out 2).trans rfl; have hcz12_3 : w9.cell? ⟨gb383, 3, none⟩ = some (.slice A1_3 l1_3.length c1_3) := (zD BK383.out 3).trans rfl; have hfz12_0 := zH BK383.out 0; have hfz12_1 := zH BK383.out 1; have hfz12_2 := zH BK383.out 2; have hfz12_3 := zH BK383.out 3) | ((with_reducible refine gate_callee (f := 27) rfl ?_); refine goesL_ (some 9) rfl rfl Tryd.func27 (by kernel_rfl) rfl #[.slice A0_0 l0_0.length c0_0, .slice A1_0 l1_0.length c1_0] rfl (by (try simp only [List.map_toArray, List.map_cons, List.map_nil]); first | done | rfl | (simp only [List.length_drop, List.length_take]; rfl)) ?_; (with_reducible refine (grapevineref01_Ids.calls k _ _ l0_0 _ _ l1_0 true _ ?side1 ?side2 ?side3 ?side4 A3.out).mono ?_); (case side1 => repeat (first | exact (Kd.C_below HR0_0.out HB.out) | (with_reducible refine Kd.C_alloc ?_ _) | (with_reducible refine Kd.C_drewN ?_ _) | (with_reducible refine Kd.C_drew ?_))); (case side2 => exact HC0_0.out); (case side3 => repeat (first | exact (Kd.C_below HR1_0.out HB.out) | (with_reducible refine Kd.C_alloc ?_ _) | (with_reducible refine Kd.C_drewN ?_ _) | (with_reducible refine Kd.C_drew ?_))); (case side4 => exact HC1_0.out); rintro e w' ⟨rfl, ⟨nd, rfl⟩⟩; refine ⟨_, rfl, ?_⟩) | (go_at_call 21; (with_reducible refine (grapevineref12_Changes.calls k _ _ l0_3 _ _ l1_3 t385 _ ?side1 ?side2 ?side3 ?side4 A7.out).mono ?_); (case side1 => repeat (first | exact (Kd.C_below HR0_3.out (by repeat (first | (with_reducible first | exact HB.out | apply zC | apply zA | apply zB | refine zE ?_ GE382.out | refine zE ?_ GE383.out) | exact HB.out))) | (with_reducible refine Kd.C_alloc ?_ _) | (with_reducible refine Kd.C_drewN ?_ _) | (with_reducible refine Kd.C_drew ?_))); (case side2 => exact HC0_3.out); (case side3 => repeat (first | exact (Kd.C_below HR1_3.out (by repeat (first | (with_reducible first | exact HB.out | apply zC | apply zA | apply zB | refine zE ?_ GE382.out | refine zE ?_ GE383.out) | exact HB.out))) | (with_reducible refine Kd.C_alloc ?_ _) | (with_reducible refine Kd.C_drewN ?_ _) | (with_reducible refine Kd.C_drew ?_))); (case side4 => exact HC1_3.out); rintro e w' ⟨rfl, ⟨nd, rfl⟩⟩))
    go_ret
    exact ⟨by first | rfl | (simp [zO, zN] <;> rfl) | (simp [*, zO, zN] <;> rfl), by repeat (first | (with_reducible first | exact HB.out | apply zC | apply zA | apply zB | refine zE ?_ GE382.out | refine zE ?_ GE383.out) | exact HB.out)⟩
   ·
    rw [if_neg c6] at H
    have c6b0 : (a0_2.toList == a1_2.toList) = false := beq_eq_false_iff_ne.mpr c6
    have c6b1 : (a0_2.toList != a1_2.toList) = true := bne_iff_ne.mpr c6
    obtain rfl := Option.some.inj H
    go_enter Tryd.func11, Tryd.ntmps11
    go_wp2_with (first | ((with_reducible refine gate_dst (N := 2) rfl ?_); refine box_event ?hg (N := 2) ?hd (cs := #[.slice A0_0 l0_0.length c0_0, .string a0_1, .string a0_2, .slice A0_3 l0_3.length c0_3]) (t := 25) ?hr ?_; (case hd => rfl); (case hg => rfl); (case hr => first | (go_simp; done) | (go_simp; rfl)); intro gb382 hg w13 hbox hb; have n0_ := Aside0.mk (zL (by repeat (first | (with_reducible first | exact HB.out | apply zC | apply zA | apply zB) | exact HB.out)) hb); have n1_ := Aside0.mk (hbox); have n2_ := Aside0.mk ((by rw [hg]; exact (zK (by repeat (first | (with_reducible first | exact HB.out | apply zC | apply zA | apply zB) | exact HB.out))) : w.heap.size ≤ gb382)); have n3_ := Aside0.mk ((by rw [hg]; exact (zK (by repeat (first | (with_reducible first | exact HB.out | apply zC | apply zA | apply zB) | exact HB.out))) : w.heap.size ≤ gb382)); clear HB; have HB := n0_; have BK382 := n1_; have GW382 := n2_; have GE382 := n3_; clear n0_ n1_ n2_ n3_; clear hb hbox hg) | ((with_reducible refine gate_dst (N := 3) rfl ?_); refine box_event ?hg (N := 3) ?hd (cs := #[.slice A1_0 l1_0.length c1_0, .string a1_1, .string a1_2, .slice A1_3 l1_3.length c1_3]) (t := 25) ?hr ?_; (case hd => rfl); (case hg => rfl); (case hr => first | (go_simp; done) | (go_simp; rfl)); intro gb383 hg w14 hbox hb; have n0_ := Aside0.mk (zM (g := gb382) (o := .cells #[.slice A0_0 l0_0.length c0_0, .string a0_1, .string a0_2, .slice A0_3 l0_3.length c0_3] 25 (0, 0)) (by (with_reducible repeat (first | refine zG ?_ _ | refine zI ?_ | refine zF ?_ _)); exact BK382.out) hb); have n1_ := Aside0.mk (zL (by repeat (first | (with_reducible first | exact HB.out | apply zC | apply zA | apply zB | refine zE ?_ GE382.out) | exact HB.out)) hb); have n2_ := Aside0.mk (hbox); have n3_ := Aside0.mk ((by rw [hg]; exact (zK (by repeat (first | (with_reducible first | exact HB.out | apply zC | apply zA | apply zB | refine zE ?_ GE382.out) | exact HB.out))) : w.heap.size ≤ gb383)); have n4_ := Aside0.mk ((by rw [hg]; exact (zK (by repeat (first | (with_reducible first | exact HB.out | apply zC | apply zA | apply zB | refine zE ?_ GE382.out) | exact HB.out))) : w.heap.size ≤ gb383)); have n5_ := Aside0.mk ((by rw [hg]; exact Nat.ne_of_lt (blk_lt (g := gb382) (o := .cells #[.slice A0_0 l0_0.length c0_0, .string a0_1, .string a0_2, .slice A0_3 l0_3.length c0_3] 25 (0, 0)) (by (with_reducible repeat (first | refine zG ?_ _ | refine zI ?_ | refine zF ?_ _)); exact BK382.out)) : gb382 ≠ gb383)); have n6_ := Aside0.mk ((by rw [hg]; exact Nat.ne_of_gt (blk_lt (g := gb382) (o := .cells #[.slice A0_0 l0_0.length c0_0, .string a0_1, .string a0_2, .slice A0_3 l0_3.length c0_3] 25 (0, 0)) (by (with_reducible repeat (first | refine zG ?_ _ | refine zI ?_ | refine zF ?_ _)); exact BK382.out)) : gb383 ≠ gb382)); clear BK382; clear HB; have BK382 := n0_; have HB := n1_; have BK383 := n2_; have GW383 := n3_; have GE383 := n4_; have NB382_383 := n5_; have NB383_382 := n6_; clear n0_ n1_ n2_ n3_ n4_ n5_ n6_; clear hb hbox hg; have hnb15 := NB382_383.out; have hnc15 := NB383_382.out; have hcz16_0 : w14.cell? ⟨gb382, 0, none⟩ = some (.slice A0_0 l0_0.length c0_0) := (zD BK382.out 0).trans rfl; have hcz16_1 : w14.cell? ⟨gb382, 1, none⟩ = some (.string a0_1) := (zD BK382.out 1).trans rfl; have hcz16_2 : w14.cell? ⟨gb382, 2, none⟩ = some (.string a0_2) := (zD BK382.out 2).trans rfl; have hcz16_3 : w14.cell? ⟨gb382, 3, none⟩ = some (.slice A0_3 l0_3.length c0_3) := (zD BK382.out 3).trans rfl; have hfz16_0 := zH BK382.out 0; have hfz16_1 := zH BK382.out 1; have hfz16_2 := zH BK382.out 2; have hfz16_3 := zH BK382.out 3; have hcz17_0 : w14.cell? ⟨gb383, 0, none⟩ = some (.slice A1_0 l1_0.length c1_0) := (zD BK383.out 0).trans rfl; have hcz17_1 : w14.cell? ⟨gb383, 1, none⟩ = some (.string a1_1) := (zD BK383.out 1).trans rfl; have hcz17_2 : w14.cell? ⟨gb383, 2, none⟩ = some (.string a1_2) := (zD BK383.out 2).trans rfl; have hcz17_3 : w14.cell? ⟨gb383, 3, none⟩ = some (.slice A1_3 l1_3.length c1_3) := (zD BK383.out 3).trans rfl; have hfz17_0 := zH BK383.out 0; have hfz17_1 := zH BK383.out 1; have hfz17_2 := zH BK383.out 2; have hfz17_3 := zH BK383.out 3) | ((with_reducible refine gate_callee (f := 27) rfl ?_); refine goesL_ (some 9) rfl rfl Tryd.func27 (by kernel_rfl) rfl #[.slice A0_0 l0_0.length c0_0, .slice A1_0 l1_0.length c1_0] rfl (by (try simp only [List.map_toArray, List.map_cons, List.map_nil]); first | done | rfl | (simp only [List.length_drop, List.length_take]; rfl)) ?_; (with_reducible refine (grapevineref01_Ids.calls k _ _ l0_0 _ _ l1_0 true _ ?side1 ?side2 ?side3 ?side4 A3.out).mono ?_); (case side1 => repeat (first | exact (Kd.C_below HR0_0.out HB.out) | (with_reducible refine Kd.C_alloc ?_ _) | (with_reducible refine Kd.C_drewN ?_ _) | (with_reducible refine Kd.C_drew ?_))); (case side2 => exact HC0_0.out); (case side3 => repeat (first | exact (Kd.C_below HR1_0.out HB.out) | (with_reducible refine Kd.C_alloc ?_ _) | (with_reducible refine Kd.C_drewN ?_ _) | (with_reducible refine Kd.C_drew ?_))); (case side4 => exact HC1_0.out); rintro e w' ⟨rfl, ⟨nd, rfl⟩⟩; refine ⟨_, rfl, ?_⟩))
    go_ret
    exact ⟨by first | rfl | (simp [zO, zN] <;> rfl) | (simp [*, zO, zN] <;> rfl), by repeat (first | (with_reducible first | exact HB.out | apply zC | apply zA | apply zB | refine zE ?_ GE382.out | refine zE ?_ GE383.out) | exact HB.out)⟩
  ·
   rw [if_neg c5] at H
   have c5b0 : (a0_1.toList == a1_1.toList) = false := beq_eq_false_iff_ne.mpr c5
   have c5b1 : (a0_1.toList != a1_1.toList) = true := bne_iff_ne.mpr c5
   obtain rfl := Option.some.inj H
   go_enter Tryd.func11, Tryd.ntmps11
   go_wp2_with (first | ((with_reducible refine gate_dst (N := 2) rfl ?_); refine box_event ?hg (N := 2) ?hd (cs := #[.slice A0_0 l0_0.length c0_0, .string a0_1, .string a0_2, .slice A0_3 l0_3.length c0_3]) (t := 25) ?hr ?_; (case hd => rfl); (case hg => rfl); (case hr => first | (go_simp; done) | (go_simp; rfl)); intro gb382 hg w18 hbox hb; have n0_ := Aside0.mk (zL (by repeat (first | (with_reducible first | exact HB.out | apply zC | apply zA | apply zB) | exact HB.out)) hb); have n1_ := Aside0.mk (hbox); have n2_ := Aside0.mk ((by rw [hg]; exact (zK (by repeat (first | (with_reducible first | exact HB.out | apply zC | apply zA | apply zB) | exact HB.out))) : w.heap.size ≤ gb382)); have n3_ := Aside0.mk ((by rw [hg]; exact (zK (by repeat (first | (with_reducible first | exact HB.out | apply zC | apply zA | apply zB) | exact HB.out))) : w.heap.size ≤ gb382)); clear HB; have HB := n0_; have BK382 := n1_; have GW382 := n2_; have GE382 := n3_; clear n0_ n1_ n2_ n3_; clear hb hbox hg) | ((with_reducible refine gate_dst (N := 3) rfl ?_); refine box_event ?hg (N := 3) ?hd (cs := #[.slice A1_0 l1_0.length c1_0, .string a1_1, .string a1_2, .slice A1_3 l1_3.length c1_3]) (t := 25) ?hr ?_; (case hd => rfl); (case hg => rfl); (case hr => first | (go_simp; done) | (go_simp; rfl)); intro gb383 hg w19 hbox hb; have n0_ := Aside0.mk (zM (g := gb382) (o := .cells #[.slice A0_0 l0_0.length c0_0, .string a0_1, .string a0_2, .slice A0_3 l0_3.length c0_3] 25 (0, 0)) (by (with_reducible repeat (first | refine zG ?_ _ | refine zI ?_ | refine zF ?_ _)); exact BK382.out) hb); have n1_ := Aside0.mk (zL (by repeat (first | (with_reducible first | exact HB.out | apply zC | apply zA | apply zB | refine zE ?_ GE382.out) | exact HB.out)) hb); have n2_ := Aside0.mk (hbox); have n3_ := Aside0.mk ((by rw [hg]; exact (zK (by repeat (first | (with_reducible first | exact HB.out | apply zC | apply zA | apply zB | refine zE ?_ GE382.out) | exact HB.out))) : w.heap.size ≤ gb383)); have n4_ := Aside0.mk ((by rw [hg]; exact (zK (by repeat (first | (with_reducible first | exact HB.out | apply zC | apply zA | apply zB | refine zE ?_ GE382.out) | exact HB.out))) : w.heap.size ≤ gb383)); have n5_ := Aside0.mk ((by rw [hg]; exact Nat.ne_of_lt (blk_lt (g := gb382) (o := .cells #[.slice A0_0 l0_0.length c0_0, .string a0_1, .string a0_2, .slice A0_3 l0_3.length c0_3] 25 (0, 0)) (by (with_reducible repeat (first | refine zG ?_ _ | refine zI ?_ | refine zF ?_ _)); exact BK382.out)) : gb382 ≠ gb383)); have n6_ := Aside0.mk ((by rw [hg]; exact Nat.ne_of_gt (blk_lt (g := gb382) (o := .cells #[.slice A0_0 l0_0.length c0_0, .string a0_1, .string a0_2, .slice A0_3 l0_3.length c0_3] 25 (0, 0)) (by (with_reducible repeat (first | refine zG ?_ _ | refine zI ?_ | refine zF ?_ _)); exact BK382.out)) : gb383 ≠ gb382)); clear BK382; clear HB; have BK382 := n0_; have HB := n1_; have BK383 := n2_; have GW383 := n3_; have GE383 := n4_; have NB382_383 := n5_; have NB383_382 := n6_; clear n0_ n1_ n2_ n3_ n4_ n5_ n6_; clear hb hbox hg; have hnb20 := NB382_383.out; have hnc20 := NB383_382.out; have hcz21_0 : w19.cell? ⟨gb382, 0, none⟩ = some (.slice A0_0 l0_0.length c0_0) := (zD BK382.out 0).trans rfl; have hcz21_1 : w19.cell? ⟨gb382, 1, none⟩ = some (.string a0_1) := (zD BK382.out 1).trans rfl; have hcz21_2 : w19.cell? ⟨gb382, 2, none⟩ = some (.string a0_2) := (zD BK382.out 2).trans rfl; have hcz21_3 : w19.cell? ⟨gb382, 3, none⟩ = some (.slice A0_3 l0_3.length c0_3) := (zD BK382.out 3).trans rfl; have hfz21_0 := zH BK382.out 0; have hfz21_1 := zH BK382.out 1; have hfz21_2 := zH BK382.out 2; have hfz21_3 := zH BK382.out 3; have hcz22_0 : w19.cell? ⟨gb383, 0, none⟩ = some (.slice A1_0 l1_0.length c1_0) := (zD BK383.out 0).trans rfl; have hcz22_1 : w19.cell? ⟨gb383, 1, none⟩ = some (.string a1_1) := (zD BK383.out 1).trans rfl; have hcz22_2 : w19.cell? ⟨gb383, 2, none⟩ = some (.string a1_2) := (zD BK383.out 2).trans rfl; have hcz22_3 : w19.cell? ⟨gb383, 3, none⟩ = some (.slice A1_3 l1_3.length c1_3) := (zD BK383.out 3).trans rfl; have hfz22_0 := zH BK383.out 0; have hfz22_1 := zH BK383.out 1; have hfz22_2 := zH BK383.out 2; have hfz22_3 := zH BK383.out 3) | ((with_reducible refine gate_callee (f := 27) rfl ?_); refine goesL_ (some 9) rfl rfl Tryd.func27 (by kernel_rfl) rfl #[.slice A0_0 l0_0.length c0_0, .slice A1_0 l1_0.length c1_0] rfl (by (try simp only [List.map_toArray, List.map_cons, List.map_nil]); first | done | rfl | (simp only [List.length_drop, List.length_take]; rfl)) ?_; (with_reducible refine (grapevineref01_Ids.calls k _ _ l0_0 _ _ l1_0 true _ ?side1 ?side2 ?side3 ?side4 A3.out).mono ?_); (case side1 => repeat (first | exact (Kd.C_below HR0_0.out HB.out) | (with_reducible refine Kd.C_alloc ?_ _) | (with_reducible refine Kd.C_drewN ?_ _) | (with_reducible refine Kd.C_drew ?_))); (case side2 => exact HC0_0.out); (case side3 => repeat (first | exact (Kd.C_below HR1_0.out HB.out) | (with_reducible refine Kd.C_alloc ?_ _) | (with_reducible refine Kd.C_drewN ?_ _) | (with_reducible refine Kd.C_drew ?_))); (case side4 => exact HC1_0.out); rintro e w' ⟨rfl, ⟨nd, rfl⟩⟩; refine ⟨_, rfl, ?_⟩))
   go_ret
   exact ⟨by first | rfl | (simp [zO, zN] <;> rfl) | (simp [*, zO, zN] <;> rfl), by repeat (first | (with_reducible first | exact HB.out | apply zC | apply zA | apply zB | refine zE ?_ GE382.out | refine zE ?_ GE383.out) | exact HB.out)⟩
 ·
  replace c4 := Bool.eq_false_iff.mpr c4
  subst c4
  have H1 : (some false) = some r := by rw [if_neg (show ¬ (false = true) by decide)] at H; exact H
  clear H
  have H := H1
  clear H1
  obtain rfl := Option.some.inj H
  go_enter Tryd.func11, Tryd.ntmps11
  go_wp2_with (first | ((with_reducible refine gate_dst (N := 2) rfl ?_); refine box_event ?hg (N := 2) ?hd (cs := #[.slice A0_0 l0_0.length c0_0, .string a0_1, .string a0_2, .slice A0_3 l0_3.length c0_3]) (t := 25) ?hr ?_; (case hd => rfl); (case hg => rfl); (case hr => first | (go_simp; done) | (go_simp; rfl)); intro gb382 hg w23 hbox hb; have n0_ := Aside0.mk (zL (by repeat (first | (with_reducible first | exact HB.out | apply zC | apply zA | apply zB) | exact HB.out)) hb); have n1_ := Aside0.mk (hbox); have n2_ := Aside0.mk ((by rw [hg]; exact (zK (by repeat (first | (with_reducible first | exact HB.out | apply zC | apply zA | apply zB) | exact HB.out))) : w.heap.size ≤ gb382)); have n3_ := Aside0.mk ((by rw [hg]; exact (zK (by repeat (first | (with_reducible first | exact HB.out | apply zC | apply zA | apply zB) | exact HB.out))) : w.heap.size ≤ gb382)); clear HB; have HB := n0_; have BK382 := n1_; have GW382 := n2_; have GE382 := n3_; clear n0_ n1_ n2_ n3_; clear hb hbox hg) | ((with_reducible refine gate_dst (N := 3) rfl ?_); refine box_event ?hg (N := 3) ?hd (cs := #[.slice A1_0 l1_0.length c1_0, .string a1_1, .string a1_2, .slice A1_3 l1_3.length c1_3]) (t := 25) ?hr ?_; (case hd => rfl); (case hg => rfl); (case hr => first | (go_simp; done) | (go_simp; rfl)); intro gb383 hg w24 hbox hb; have n0_ := Aside0.mk (zM (g := gb382) (o := .cells #[.slice A0_0 l0_0.length c0_0, .string a0_1, .string a0_2, .slice A0_3 l0_3.length c0_3] 25 (0, 0)) (by (with_reducible repeat (first | refine zG ?_ _ | refine zI ?_ | refine zF ?_ _)); exact BK382.out) hb); have n1_ := Aside0.mk (zL (by repeat (first | (with_reducible first | exact HB.out | apply zC | apply zA | apply zB | refine zE ?_ GE382.out) | exact HB.out)) hb); have n2_ := Aside0.mk (hbox); have n3_ := Aside0.mk ((by rw [hg]; exact (zK (by repeat (first | (with_reducible first | exact HB.out | apply zC | apply zA | apply zB | refine zE ?_ GE382.out) | exact HB.out))) : w.heap.size ≤ gb383)); have n4_ := Aside0.mk ((by rw [hg]; exact (zK (by repeat (first | (with_reducible first | exact HB.out | apply zC | apply zA | apply zB | refine zE ?_ GE382.out) | exact HB.out))) : w.heap.size ≤ gb383)); have n5_ := Aside0.mk ((by rw [hg]; exact Nat.ne_of_lt (blk_lt (g := gb382) (o := .cells #[.slice A0_0 l0_0.length c0_0, .string a0_1, .string a0_2, .slice A0_3 l0_3.length c0_3] 25 (0, 0)) (by (with_reducible repeat (first | refine zG ?_ _ | refine zI ?_ | refine zF ?_ _)); exact BK382.out)) : gb382 ≠ gb383)); have n6_ := Aside0.mk ((by rw [hg]; exact Nat.ne_of_gt (blk_lt (g := gb382) (o := .cells #[.slice A0_0 l0_0.length c0_0, .string a0_1, .string a0_2, .slice A0_3 l0_3.length c0_3] 25 (0, 0)) (by (with_reducible repeat (first | refine zG ?_ _ | refine zI ?_ | refine zF ?_ _)); exact BK382.out)) : gb383 ≠ gb382)); clear BK382; clear HB; have BK382 := n0_; have HB := n1_; have BK383 := n2_; have GW383 := n3_; have GE383 := n4_; have NB382_383 := n5_; have NB383_382 := n6_; clear n0_ n1_ n2_ n3_ n4_ n5_ n6_; clear hb hbox hg; have hnb25 := NB382_383.out; have hnc25 := NB383_382.out; have hcz26_0 : w24.cell? ⟨gb382, 0, none⟩ = some (.slice A0_0 l0_0.length c0_0) := (zD BK382.out 0).trans rfl; have hcz26_1 : w24.cell? ⟨gb382, 1, none⟩ = some (.string a0_1) := (zD BK382.out 1).trans rfl; have hcz26_2 : w24.cell? ⟨gb382, 2, none⟩ = some (.string a0_2) := (zD BK382.out 2).trans rfl; have hcz26_3 : w24.cell? ⟨gb382, 3, none⟩ = some (.slice A0_3 l0_3.length c0_3) := (zD BK382.out 3).trans rfl; have hfz26_0 := zH BK382.out 0; have hfz26_1 := zH BK382.out 1; have hfz26_2 := zH BK382.out 2; have hfz26_3 := zH BK382.out 3; have hcz27_0 : w24.cell? ⟨gb383, 0, none⟩ = some (.slice A1_0 l1_0.length c1_0) := (zD BK383.out 0).trans rfl; have hcz27_1 : w24.cell? ⟨gb383, 1, none⟩ = some (.string a1_1) := (zD BK383.out 1).trans rfl; have hcz27_2 : w24.cell? ⟨gb383, 2, none⟩ = some (.string a1_2) := (zD BK383.out 2).trans rfl; have hcz27_3 : w24.cell? ⟨gb383, 3, none⟩ = some (.slice A1_3 l1_3.length c1_3) := (zD BK383.out 3).trans rfl; have hfz27_0 := zH BK383.out 0; have hfz27_1 := zH BK383.out 1; have hfz27_2 := zH BK383.out 2; have hfz27_3 := zH BK383.out 3) | ((with_reducible refine gate_callee (f := 27) rfl ?_); refine goesL_ (some 9) rfl rfl Tryd.func27 (by kernel_rfl) rfl #[.slice A0_0 l0_0.length c0_0, .slice A1_0 l1_0.length c1_0] rfl (by (try simp only [List.map_toArray, List.map_cons, List.map_nil]); first | done | rfl | (simp only [List.length_drop, List.length_take]; rfl)) ?_; (with_reducible refine (grapevineref01_Ids.calls k _ _ l0_0 _ _ l1_0 false _ ?side1 ?side2 ?side3 ?side4 A3.out).mono ?_); (case side1 => repeat (first | exact (Kd.C_below HR0_0.out HB.out) | (with_reducible refine Kd.C_alloc ?_ _) | (with_reducible refine Kd.C_drewN ?_ _) | (with_reducible refine Kd.C_drew ?_))); (case side2 => exact HC0_0.out); (case side3 => repeat (first | exact (Kd.C_below HR1_0.out HB.out) | (with_reducible refine Kd.C_alloc ?_ _) | (with_reducible refine Kd.C_drewN ?_ _) | (with_reducible refine Kd.C_drew ?_))); (case side4 => exact HC1_0.out); rintro e w' ⟨rfl, ⟨nd, rfl⟩⟩; refine ⟨_, rfl, ?_⟩))
  go_ret
  exact ⟨by first | rfl | (simp [zO, zN] <;> rfl) | (simp [*, zO, zN] <;> rfl), by repeat (first | (with_reducible first | exact HB.out | apply zC | apply zA | apply zB | refine zE ?_ GE382.out | refine zE ?_ GE383.out) | exact HB.out)⟩
end Go.Proofs.YtembjjombhfglaaDoor.G
