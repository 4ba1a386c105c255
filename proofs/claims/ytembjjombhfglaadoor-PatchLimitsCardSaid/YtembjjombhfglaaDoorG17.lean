import Derived.Test.YtembjjombhfglaaDoorG0
import Derived.Test.YtembjjombhfglaaDoorG7
import Derived.Test.YtembjjombhfglaaDoorG11
import Derived.Test.YtembjjombhfglaaDoorG12
import Derived.Test.YtembjjombhfglaaDoorG16
import Derived.Test.YtembjjombhfglaaDoorGE5
namespace Go.Proofs.YtembjjombhfglaaDoor.G
open Go.RowKit Go.Proofs.YtembjjombhfglaaDoorW.PrintWords Go.Proofs.YtembjjombhfglaaDoorW.PrintLast Go.Proofs.YtembjjombhfglaaDoorW.PrintMore
attribute [local go_sem] max2_int min2_int max_two min_two max_three min_three max_four min_four
set_option linter.unusedVariables false
set_option linter.unusedSimpArgs false
mutual
def grapevinelaw12_PatchLimits.l0 : Nat → Bool → Int → Int → List ByteArray → ByteArray → ByteArray → Option (Bool)
 | 0, _, _, _, _, _, _ => none
 | k + 1, x7, x8, x10, x529000, x529001, x529002 => if x10 < x8 then (if 32 ≤ 281474976710656 then ((some (List.replicate 32 0 : List Int)).bind fun y529 => (if 31 < (y529.length : Int) then (if x529000.length < 8796093022208 then (grapevinelaw12_PatchLimits.l0 k x7 x8 (wrap64 (x10 + 1)) (x529000 ++ [strOfNums (y529.set (31 : Int).toNat ((x10) % 256))]) x529001 x529002) else (none)) else (none))) else (none)) else (if x8 ≤ 16 then (if (x529001.size : Int) ≤ 100 then (grapevinelaw12_PatchLimits.j1 k x7 (decide ((x529002.size : Int) ≤ 1000)) x529000 x529001 x529002) else (grapevinelaw12_PatchLimits.j1 k x7 false x529000 x529001 x529002)) else (grapevinelaw12_PatchLimits.j1 k x7 false x529000 x529001 x529002))
def grapevinelaw12_PatchLimits.j1 : Nat → Bool → Bool → List ByteArray → ByteArray → ByteArray → Option (Bool)
 | 0, _, _, _, _, _ => none
 | k + 1, x7, x12, x529000, x529001, x529002 => (grapevineref12_Form.f k x529000 x529001 x529002 ([] : List (S48))).bind fun t536 => ((patch_Decode.f t536).bind fun bt539 => (if x12 = true then (if x7 = true then ((patch_Right.f k x529000 x529001 x529002 ([] : List (S48))).bind fun t549 => (if (t549 == x12) = true then (if bt539.2.2.2.2 = 0 then ((grapevineref12_Same.f k x529000 x529001 x529002 ([] : List (S48)) bt539.1 bt539.2.1 bt539.2.2.1 bt539.2.2.2.1).bind fun t550 => (some t550)) else (some false)) else (some false))) else (some false)) else (if x7 = true then ((patch_Right.f k x529000 x529001 x529002 ([] : List (S48))).bind fun t551 => (if (t551 == x12) = true then (if bt539.2.2.2.2 = 4 then (some true) else (some false)) else (some false))) else (some false))))
end
def grapevinelaw12_PatchLimits.f (k : Nat) (a0 : Int) (a1 : Int) (a2 : Int) : Option (Bool) := (grapevinelaw12_awake.f k).bind fun t521 => (if 0 ≤ (wrap64 (95 + (wrap64 (Int.tmod a1 11)))) then (if (wrap64 (95 + (wrap64 (Int.tmod a1 11))) : Int).toNat ≤ 281474976710656 then (if 0 ≤ (wrap64 (995 + (wrap64 (Int.tmod a2 11)))) then (if (wrap64 (995 + (wrap64 (Int.tmod a2 11))) : Int).toNat ≤ 281474976710656 then (grapevinelaw12_PatchLimits.l0 k t521 (wrap64 (Int.tmod a0 21)) 0 ([] : List ByteArray) (strOfNums (List.replicate (wrap64 (95 + (wrap64 (Int.tmod a1 11))) : Int).toNat 0)) (strOfNums (List.replicate (wrap64 (995 + (wrap64 (Int.tmod a2 11))) : Int).toNat 0))) else (none)) else (none)) else (none)) else (none))
def grapevinelaw12_PatchLimits.T3 : Bool × List (List Nat × List Nat) := (true, [([], []), ([0], [0]), ([1], [1]), ([2], [2]), ([3, 3], [3]), ([4], [4]), ([], []), ([6], [6]), ([7], [7]), ([8], [8]), ([9, 9], [9]), ([10], [10]), ([5, 11], [5, 11]), ([], []), ([13, 12, 0, 1, 2, 3, 4, 5, 6, 7, 8, 9, 10, 11, 12, 13], [12, 13])])
def grapevinelaw12_PatchLimits.B3 : List Nat := [0, 1, 3, 7, 15, 31, 0, 64, 192, 448, 960, 1984, 4095, 0, 16383]
theorem grapevinelaw12_PatchLimits.tab3 : rtab .any (opsOf Tryd.f5 3) = grapevinelaw12_PatchLimits.T3 := by kernel_rfl
theorem grapevinelaw12_PatchLimits.bits3 : waitsOk grapevinelaw12_PatchLimits.T3.2 grapevinelaw12_PatchLimits.B3 = true := by kernel_rfl
set_option maxHeartbeats 8000000 in
set_option maxRecDepth 100000 in
theorem grapevinelaw12_PatchLimits.calls (k : Nat) (a0 : Int) (a1 : Int) (a2 : Int) (r : Bool) (w : World) (hG : GK w) (h : grapevinelaw12_PatchLimits.f k a0 a1 a2 = some r) (hawk : grapevinelaw12_awake.f k = some true) (hrt : r = true) :
  Calls Tryd.prog 5 #[.int .u8 a0, .int .u8 a1, .int .u8 a2] w fun e w' => e = .returned (.bool r) ∧ Below w.heap.size w w' := by
 have hu25 := Tryd.underlying25
 have HB := Aside0.mk (Below.refl w.heap.size w)
 have H : ((grapevinelaw12_awake.f k).bind fun t521 => (if 0 ≤ (wrap64 (95 + (wrap64 (Int.tmod a1 11)))) then (if (wrap64 (95 + (wrap64 (Int.tmod a1 11))) : Int).toNat ≤ 281474976710656 then (if 0 ≤ (wrap64 (995 + (wrap64 (Int.tmod a2 11)))) then (if (wrap64 (995 + (wrap64 (Int.tmod a2 11))) : Int).toNat ≤ 281474976710656 then (grapevinelaw12_PatchLimits.l0 k t521 (wrap64 (Int.tmod a0 21)) 0 ([] : List ByteArray) (strOfNums (List.replicate (wrap64 (95 + (wrap64 (Int.tmod a1 11))) : Int).toNat 0)) (strOfNums (List.replicate (wrap64 (995 + (wrap64 (Int.tmod a2 11))) : Int).toNat 0))) else (none)) else (none)) else (none)) else (none))) = some r := h
 clear h
 replace H := Option.bind_eq_some_iff.mp H
 obtain ⟨t521, A40, H⟩ := H
 replace H : (if 0 ≤ (wrap64 (95 + (wrap64 (Int.tmod a1 11)))) then (if (wrap64 (95 + (wrap64 (Int.tmod a1 11))) : Int).toNat ≤ 281474976710656 then (if 0 ≤ (wrap64 (995 + (wrap64 (Int.tmod a2 11)))) then (if (wrap64 (995 + (wrap64 (Int.tmod a2 11))) : Int).toNat ≤ 281474976710656 then (grapevinelaw12_PatchLimits.l0 k t521 (wrap64 (Int.tmod a0 21)) 0 ([] : List ByteArray) (strOfNums (List.replicate (wrap64 (95 + (wrap64 (Int.tmod a1 11))) : Int).toNat 0)) (strOfNums (List.replicate (wrap64 (995 + (wrap64 (Int.tmod a2 11))) : Int).toNat 0))) else (none)) else (none)) else (none)) else (none)) = some r := H
 have A4 := Aside0.mk A40
 clear A40
 obtain ⟨ji5, hji5⟩ : ∃ j_ : Int, (wrap64 (95 + (wrap64 (Int.tmod a1 11)))) = j_ := ⟨_, rfl⟩
 replace H : (if 0 ≤ (ji5) then (if (ji5 : Int).toNat ≤ 281474976710656 then (if 0 ≤ (wrap64 (995 + (wrap64 (Int.tmod a2 11)))) then (if (wrap64 (995 + (wrap64 (Int.tmod a2 11))) : Int).toNat ≤ 281474976710656 then (grapevinelaw12_PatchLimits.l0 k t521 (wrap64 (Int.tmod a0 21)) 0 ([] : List ByteArray) (strOfNums (List.replicate (ji5 : Int).toNat 0)) (strOfNums (List.replicate (wrap64 (995 + (wrap64 (Int.tmod a2 11))) : Int).toNat 0))) else (none)) else (none)) else (none)) else (none)) = some r := by first | (rw [hji5] at H; exact H) | (simp only [hji5] at H ⊢; exact H)
 (try rw [hji5] at A4)
 have hji5w : (IntKind.i64.wrap (95 + (wrap64 (Int.tmod a1 11)))) = ji5 := (i64_w _).trans hji5
 by_cases c6 : 0 ≤ (ji5)
 ·
  rw [if_pos c6] at H
  have c6b0 := eq_true c6
  have c6b1 : decide (0 ≤ (ji5)) = true := decide_eq_true c6
  clear c6
  by_cases c7 : (ji5 : Int).toNat ≤ 281474976710656
  ·
   rw [if_pos c7] at H
   have c7b0 := eq_true c7
   have c7b1 : decide ((ji5 : Int).toNat ≤ 281474976710656) = true := decide_eq_true c7
   clear c7
   obtain ⟨y522, hy522⟩ : ∃ y_ : List Int, y_ = (List.replicate (ji5 : Int).toNat 0) := ⟨_, rfl⟩
   replace H : (if 0 ≤ (wrap64 (995 + (wrap64 (Int.tmod a2 11)))) then (if (wrap64 (995 + (wrap64 (Int.tmod a2 11))) : Int).toNat ≤ 281474976710656 then (grapevinelaw12_PatchLimits.l0 k t521 (wrap64 (Int.tmod a0 21)) 0 ([] : List ByteArray) (strOfNums y522) (strOfNums (List.replicate (wrap64 (995 + (wrap64 (Int.tmod a2 11))) : Int).toNat 0))) else (none)) else (none)) = some r := by first | (rw [hy522]; with_reducible exact H) | (have H2_ := (Option.bind_some _ _).symm.trans H; rw [hy522]; with_reducible exact H2_) | (have H2_ := (Option.bind_some _ _).symm.trans H; with_reducible exact H2_) | with_reducible exact H | (rw [hy522]; exact H) | exact H
   have Ny522 := Aside0.mk hy522
   clear hy522
   obtain ⟨ji8, hji8⟩ : ∃ j_ : Int, (wrap64 (995 + (wrap64 (Int.tmod a2 11)))) = j_ := ⟨_, rfl⟩
   replace H : (if 0 ≤ (ji8) then (if (ji8 : Int).toNat ≤ 281474976710656 then (grapevinelaw12_PatchLimits.l0 k t521 (wrap64 (Int.tmod a0 21)) 0 ([] : List ByteArray) (strOfNums y522) (strOfNums (List.replicate (ji8 : Int).toNat 0))) else (none)) else (none)) = some r := by first | (rw [hji8] at H; exact H) | (simp only [hji8] at H ⊢; exact H)
   (try rw [hji8] at A4)
   have hji8w : (IntKind.i64.wrap (995 + (wrap64 (Int.tmod a2 11)))) = ji8 := (i64_w _).trans hji8
   by_cases c9 : 0 ≤ (ji8)
   ·
    rw [if_pos c9] at H
    have c9b0 := eq_true c9
    have c9b1 : decide (0 ≤ (ji8)) = true := decide_eq_true c9
    clear c9
    by_cases c10 : (ji8 : Int).toNat ≤ 281474976710656
    ·
     rw [if_pos c10] at H
     have c10b0 := eq_true c10
     have c10b1 : decide ((ji8 : Int).toNat ≤ 281474976710656) = true := decide_eq_true c10
     clear c10
     obtain ⟨y525, hy525⟩ : ∃ y_ : List Int, y_ = (List.replicate (ji8 : Int).toNat 0) := ⟨_, rfl⟩
     replace H : (grapevinelaw12_PatchLimits.l0 k t521 (wrap64 (Int.tmod a0 21)) 0 ([] : List ByteArray) (strOfNums y522) (strOfNums y525)) = some r := by first | (rw [hy525]; with_reducible exact H) | (have H2_ := (Option.bind_some _ _).symm.trans H; rw [hy525]; with_reducible exact H2_) | (have H2_ := (Option.bind_some _ _).symm.trans H; with_reducible exact H2_) | with_reducible exact H | (rw [hy525]; exact H) | exact H
     have Ny525 := Aside0.mk hy525
     clear hy525
     have H' := Aside0.mk H
     clear H
     go_enter Tryd.func5, Tryd.ntmps5
     try go_wp2_with (first | ((with_reducible refine gate_callee (f := 7) rfl ?_); refine goesL_ (some 17) rfl rfl Tryd.func7 (by kernel_rfl) rfl #[] rfl (by (try simp only [List.map_toArray, List.map_cons, List.map_nil]); first | done | rfl | (simp only [List.length_drop, List.length_take]; rfl)) ?_; (with_reducible refine (grapevinelaw12_awake.calls k  t521 _ (GK.below hG (by repeat (first | (with_reducible first | exact HB.out | apply zC | apply zA | apply zB) | exact HB.out))) A4.out (by have h_ := A4.out; rw [hawk] at h_; exact (Option.some.inj h_).symm)).mono ?_); rintro e w11 ⟨rfl, hb⟩; refine ⟨_, rfl, ?_⟩; have n0_ := Aside0.mk (zL (by repeat (first | (with_reducible first | exact HB.out | apply zC | apply zA | apply zB) | exact HB.out)) hb); clear HB; have HB := n0_; clear n0_; (try clear hb); (try clear hb2); (try clear hk); (try clear hi)))
     have n0_ := Aside0.mk (zB HB.out)
     clear HB
     have HB := n0_
     clear n0_
     refine start_ (n := 15) (S := fun w' => True) (ds := []) #[false, false, false, false, false, false, false, false, false, false, false, false, false, false, false] (by kernel_rfl) rfl rfl trivial (fun hHeld => ?_); refine with_tabW grapevinelaw12_PatchLimits.tab3 grapevinelaw12_PatchLimits.bits3 (fun HT_ HW_ => ?_)
     generalize w11.drew = w12 at HB hHeld ⊢
     refine pure_ (i := 0) (N := some 21) (v := ?_) (a' := ?_) #[true, false, false, false, false, false, false, false, false, false, false, false, false, false, false] rfl rfl (zP HT_.out (by kernel_rfl)) (fun _ _ _ h => h) (Or.inl ⟨by rfl, ?_⟩) ?_ ?_
     rotate_left
     ·
      intro w'
      go_simp
      with_reducible rfl
     rotate_left
     ·
      simp only [Act.put, List.setIfInBounds_toArray, List.set_cons_zero, List.set_cons_succ, i64_w, i32_w]
      rfl
     refine pure_ (i := 1) (N := some 22) (v := ?_) (a' := ?_) #[true, true, false, false, false, false, false, false, false, false, false, false, false, false, false] rfl rfl (zP HT_.out (by kernel_rfl)) (fun _ _ _ h => h) (Or.inl ⟨by rfl, ?_⟩) ?_ ?_
     rotate_left
     ·
      intro w'
      go_simp
      with_reducible rfl
     rotate_left
     ·
      simp only [Act.put, List.setIfInBounds_toArray, List.set_cons_zero, List.set_cons_succ, i64_w, i32_w]
      rfl
     refine pure_ (i := 2) (N := some 23) (v := ?_) (a' := ?_) #[true, true, true, false, false, false, false, false, false, false, false, false, false, false, false] rfl rfl (zP HT_.out (by kernel_rfl)) (fun _ _ _ h => h) (Or.inl ⟨by rfl, ?_⟩) ?_ ?_
     rotate_left
     ·
      intro w'
      go_simp
      with_reducible rfl
     rotate_left
     ·
      simp only [Act.put, List.setIfInBounds_toArray, List.set_cons_zero, List.set_cons_succ, i64_w, i32_w]
      rfl
     refine pure_ (i := 3) (N := some 24) (v := ?_) (a' := ?_) #[true, true, true, true, false, false, false, false, false, false, false, false, false, false, false] rfl rfl (zP HT_.out (by kernel_rfl)) (fun _ _ _ h => h) (Or.inl ⟨by rfl, ?_⟩) ?_ ?_
     rotate_left
     ·
      intro w'
      go_simp
      with_reducible rfl
     rotate_left
     ·
      simp only [Act.put, List.setIfInBounds_toArray, List.set_cons_zero, List.set_cons_succ, i64_w, i32_w]
      rfl
     refine pure_ (i := 6) (N := some 27) (v := ?_) (a' := ?_) #[true, true, true, true, false, false, true, false, false, false, false, false, false, false, false] rfl rfl (zP HT_.out (by kernel_rfl)) (fun _ _ _ h => h) (Or.inl ⟨by rfl, ?_⟩) ?_ ?_
     rotate_left
     ·
      intro w'
      go_simp
      with_reducible rfl
     rotate_left
     ·
      simp only [Act.put, List.setIfInBounds_toArray, List.set_cons_zero, List.set_cons_succ, i64_w, i32_w]
      rfl
     refine pure_ (i := 7) (N := some 28) (v := ?_) (a' := ?_) #[true, true, true, true, false, false, true, true, false, false, false, false, false, false, false] rfl rfl (zP HT_.out (by kernel_rfl)) (fun _ _ _ h => h) (Or.inl ⟨by rfl, ?_⟩) ?_ ?_
     rotate_left
     ·
      intro w'
      go_simp
      with_reducible rfl
     rotate_left
     ·
      simp only [Act.put, List.setIfInBounds_toArray, List.set_cons_zero, List.set_cons_succ, i64_w, i32_w]
      rfl
     refine pure_ (i := 8) (N := some 29) (v := ?_) (a' := ?_) #[true, true, true, true, false, false, true, true, true, false, false, false, false, false, false] rfl rfl (zP HT_.out (by kernel_rfl)) (fun _ _ _ h => h) (Or.inl ⟨by rfl, ?_⟩) ?_ ?_
     rotate_left
     ·
      intro w'
      go_simp
      with_reducible rfl
     rotate_left
     ·
      simp only [Act.put, List.setIfInBounds_toArray, List.set_cons_zero, List.set_cons_succ, i64_w, i32_w]
      rfl
     refine pure_ (i := 9) (N := some 30) (v := ?_) (a' := ?_) #[true, true, true, true, false, false, true, true, true, true, false, false, false, false, false] rfl rfl (zP HT_.out (by kernel_rfl)) (fun _ _ _ h => h) (Or.inl ⟨by rfl, ?_⟩) ?_ ?_
     rotate_left
     ·
      intro w'
      go_simp
      with_reducible rfl
     rotate_left
     ·
      simp only [Act.put, List.setIfInBounds_toArray, List.set_cons_zero, List.set_cons_succ, i64_w, i32_w]
      rfl
     refine join_ (σ := Value × Value × Nat) 1 #[true, true, true, true, true, true, true, true, true, true, true, true, true, true, false] (fun s_ => [(25, s_.1), (26, .string (strOfNums y522)), (31, s_.2.1), (32, .string (strOfNums y525)), (9, .pointer (some ⟨s_.2.2, 0, none⟩)), (33, .agg #[.slice none 0 0, .string (strOfNums y522), .string (strOfNums y525), .slice none 0 0])]) (fun s_ w' => (Kd.R (Kd.int .u8) 5 w' w.heap.size (fun k_ => some k_ ≠ (s_.2.1 : Value).ownBlock) s_.1 y522) ∧ (Kd.R (Kd.int .u8) 5 w' w.heap.size (fun k_ => some k_ ≠ (s_.1 : Value).ownBlock) s_.2.1 y525) ∧ (w'.heap[s_.2.2]? = some (.cells #[.slice none 0 0, .string (⟨#[]⟩ : ByteArray), .string (⟨#[]⟩ : ByteArray), .slice none 0 0] 25 (0, 0))) ∧ (w.heap.size ≤ s_.2.2) ∧ (w.heap.size ≤ s_.2.2) ∧ (Below w.heap.size w w')) ?_ ?_
     rotate_left
     ·
      intro hJ4_5_10_11_13
      refine join_ (σ := Value × Value) 2 #[true, true, true, true, true, true, true, true, true, true, true, true, true, false, false] (fun s_ => [(25, s_.1), (26, .string (strOfNums y522)), (31, s_.2), (32, .string (strOfNums y525)), (33, .agg #[.slice none 0 0, .string (strOfNums y522), .string (strOfNums y525), .slice none 0 0])]) (fun s_ w' => (Kd.R (Kd.int .u8) 5 w' w.heap.size (fun k_ => some k_ ≠ (s_.2 : Value).ownBlock) s_.1 y522) ∧ (Kd.R (Kd.int .u8) 5 w' w.heap.size (fun k_ => some k_ ≠ (s_.1 : Value).ownBlock) s_.2 y525) ∧ (Below w.heap.size w w')) ?_ ?_
      rotate_left
      ·
       intro hJ4_5_10_11
       refine join_ (σ := Value × Value × Nat) 3 #[true, true, true, true, true, true, true, true, true, true, true, false, false, true, false] (fun s_ => [(25, s_.1), (26, .string (strOfNums y522)), (31, s_.2.1), (9, .pointer (some ⟨s_.2.2, 0, none⟩))]) (fun s_ w' => (Kd.R (Kd.int .u8) 5 w' w.heap.size (fun k_ => some k_ ≠ (s_.2.1 : Value).ownBlock) s_.1 y522) ∧ (Kd.R (Kd.int .u8) 5 w' w.heap.size (fun k_ => some k_ ≠ (s_.1 : Value).ownBlock) s_.2.1 y525) ∧ (w'.heap[s_.2.2]? = some (.cells #[.slice none 0 0, .string (⟨#[]⟩ : ByteArray), .string (⟨#[]⟩ : ByteArray), .slice none 0 0] 25 (0, 0))) ∧ (w.heap.size ≤ s_.2.2) ∧ (w.heap.size ≤ s_.2.2) ∧ (Below w.heap.size w w')) ?_ ?_
       rotate_left
       ·
        intro hJ4_5_10_13
        refine join_ (σ := Value × Value × Nat) 3 #[true, true, true, true, true, false, true, true, true, true, true, true, false, true, false] (fun s_ => [(25, s_.1), (31, s_.2.1), (32, .string (strOfNums y525)), (9, .pointer (some ⟨s_.2.2, 0, none⟩))]) (fun s_ w' => (Kd.R (Kd.int .u8) 5 w' w.heap.size (fun k_ => some k_ ≠ (s_.2.1 : Value).ownBlock) s_.1 y522) ∧ (Kd.R (Kd.int .u8) 5 w' w.heap.size (fun k_ => some k_ ≠ (s_.1 : Value).ownBlock) s_.2.1 y525) ∧ (w'.heap[s_.2.2]? = some (.cells #[.slice none 0 0, .string (⟨#[]⟩ : ByteArray), .string (⟨#[]⟩ : ByteArray), .slice none 0 0] 25 (0, 0))) ∧ (w.heap.size ≤ s_.2.2) ∧ (w.heap.size ≤ s_.2.2) ∧ (Below w.heap.size w w')) ?_ ?_
        rotate_left
        ·
         intro hJ4_10_11_13
         refine join_ (σ := Value × Value) 4 #[true, true, true, true, true, true, true, true, true, true, true, false, false, false, false] (fun s_ => [(25, s_.1), (26, .string (strOfNums y522)), (31, s_.2)]) (fun s_ w' => (Kd.R (Kd.int .u8) 5 w' w.heap.size (fun k_ => some k_ ≠ (s_.2 : Value).ownBlock) s_.1 y522) ∧ (Kd.R (Kd.int .u8) 5 w' w.heap.size (fun k_ => some k_ ≠ (s_.1 : Value).ownBlock) s_.2 y525) ∧ (Below w.heap.size w w')) ?_ ?_
         rotate_left
         ·
          intro hJ4_5_10
          refine join_ (σ := Value × Nat) 4 #[true, true, true, true, true, true, true, true, true, true, false, false, false, true, false] (fun s_ => [(25, s_.1), (26, .string (strOfNums y522)), (9, .pointer (some ⟨s_.2, 0, none⟩))]) (fun s_ w' => (Kd.R (Kd.int .u8) 5 w' w.heap.size (fun _ => True) s_.1 y522) ∧ (w'.heap[s_.2]? = some (.cells #[.slice none 0 0, .string (⟨#[]⟩ : ByteArray), .string (⟨#[]⟩ : ByteArray), .slice none 0 0] 25 (0, 0))) ∧ (w.heap.size ≤ s_.2) ∧ (w.heap.size ≤ s_.2) ∧ (Below w.heap.size w w')) ?_ ?_
          rotate_left
          ·
           intro hJ4_5_13
           refine join_ (σ := Value × Value) 4 #[true, true, true, true, true, false, true, true, true, true, true, true, false, false, false] (fun s_ => [(25, s_.1), (31, s_.2), (32, .string (strOfNums y525))]) (fun s_ w' => (Kd.R (Kd.int .u8) 5 w' w.heap.size (fun k_ => some k_ ≠ (s_.2 : Value).ownBlock) s_.1 y522) ∧ (Kd.R (Kd.int .u8) 5 w' w.heap.size (fun k_ => some k_ ≠ (s_.1 : Value).ownBlock) s_.2 y525) ∧ (Below w.heap.size w w')) ?_ ?_
           rotate_left
           ·
            intro hJ4_10_11
            refine join_ (σ := Value × Value × Nat) 4 #[true, true, true, true, true, false, true, true, true, true, true, false, false, true, false] (fun s_ => [(25, s_.1), (31, s_.2.1), (9, .pointer (some ⟨s_.2.2, 0, none⟩))]) (fun s_ w' => (Kd.R (Kd.int .u8) 5 w' w.heap.size (fun k_ => some k_ ≠ (s_.2.1 : Value).ownBlock) s_.1 y522) ∧ (Kd.R (Kd.int .u8) 5 w' w.heap.size (fun k_ => some k_ ≠ (s_.1 : Value).ownBlock) s_.2.1 y525) ∧ (w'.heap[s_.2.2]? = some (.cells #[.slice none 0 0, .string (⟨#[]⟩ : ByteArray), .string (⟨#[]⟩ : ByteArray), .slice none 0 0] 25 (0, 0))) ∧ (w.heap.size ≤ s_.2.2) ∧ (w.heap.size ≤ s_.2.2) ∧ (Below w.heap.size w w')) ?_ ?_
            rotate_left
            ·
             intro hJ4_10_13
             refine join_ (σ := Value × Nat) 4 #[true, true, true, true, false, false, true, true, true, true, true, true, false, true, false] (fun s_ => [(31, s_.1), (32, .string (strOfNums y525)), (9, .pointer (some ⟨s_.2, 0, none⟩))]) (fun s_ w' => (Kd.R (Kd.int .u8) 5 w' w.heap.size (fun _ => True) s_.1 y525) ∧ (w'.heap[s_.2]? = some (.cells #[.slice none 0 0, .string (⟨#[]⟩ : ByteArray), .string (⟨#[]⟩ : ByteArray), .slice none 0 0] 25 (0, 0))) ∧ (w.heap.size ≤ s_.2) ∧ (w.heap.size ≤ s_.2) ∧ (Below w.heap.size w w')) ?_ ?_
             rotate_left
             ·
              intro hJ10_11_13
              refine join_ (σ := Value) 5 #[true, true, true, true, true, true, true, true, true, true, false, false, false, false, false] (fun s_ => [(25, s_), (26, .string (strOfNums y522))]) (fun s_ w' => (Kd.R (Kd.int .u8) 5 w' w.heap.size (fun _ => True) s_ y522) ∧ (Below w.heap.size w w')) ?_ ?_
              rotate_left
              ·
               intro hJ4_5
               refine join_ (σ := Value × Value) 5 #[true, true, true, true, true, false, true, true, true, true, true, false, false, false, false] (fun s_ => [(25, s_.1), (31, s_.2)]) (fun s_ w' => (Kd.R (Kd.int .u8) 5 w' w.heap.size (fun k_ => some k_ ≠ (s_.2 : Value).ownBlock) s_.1 y522) ∧ (Kd.R (Kd.int .u8) 5 w' w.heap.size (fun k_ => some k_ ≠ (s_.1 : Value).ownBlock) s_.2 y525) ∧ (Below w.heap.size w w')) ?_ ?_
               rotate_left
               ·
                intro hJ4_10
                refine join_ (σ := Value × Nat) 5 #[true, true, true, true, true, false, true, true, true, true, false, false, false, true, false] (fun s_ => [(25, s_.1), (9, .pointer (some ⟨s_.2, 0, none⟩))]) (fun s_ w' => (Kd.R (Kd.int .u8) 5 w' w.heap.size (fun _ => True) s_.1 y522) ∧ (w'.heap[s_.2]? = some (.cells #[.slice none 0 0, .string (⟨#[]⟩ : ByteArray), .string (⟨#[]⟩ : ByteArray), .slice none 0 0] 25 (0, 0))) ∧ (w.heap.size ≤ s_.2) ∧ (w.heap.size ≤ s_.2) ∧ (Below w.heap.size w w')) ?_ ?_
                rotate_left
                ·
                 intro hJ4_13
                 refine join_ (σ := Value) 5 #[true, true, true, true, false, false, true, true, true, true, true, true, false, false, false] (fun s_ => [(31, s_), (32, .string (strOfNums y525))]) (fun s_ w' => (Kd.R (Kd.int .u8) 5 w' w.heap.size (fun _ => True) s_ y525) ∧ (Below w.heap.size w w')) ?_ ?_
                 rotate_left
                 ·
                  intro hJ10_11
                  refine join_ (σ := Value × Nat) 5 #[true, true, true, true, false, false, true, true, true, true, true, false, false, true, false] (fun s_ => [(31, s_.1), (9, .pointer (some ⟨s_.2, 0, none⟩))]) (fun s_ w' => (Kd.R (Kd.int .u8) 5 w' w.heap.size (fun _ => True) s_.1 y525) ∧ (w'.heap[s_.2]? = some (.cells #[.slice none 0 0, .string (⟨#[]⟩ : ByteArray), .string (⟨#[]⟩ : ByteArray), .slice none 0 0] 25 (0, 0))) ∧ (w.heap.size ≤ s_.2) ∧ (w.heap.size ≤ s_.2) ∧ (Below w.heap.size w w')) ?_ ?_
                  rotate_left
                  ·
                   intro hJ10_13
                   refine join_ (σ := Value) 6 #[true, true, true, true, true, false, true, true, true, true, false, false, false, false, false] (fun s_ => [(25, s_)]) (fun s_ w' => (Kd.R (Kd.int .u8) 5 w' w.heap.size (fun _ => True) s_ y522) ∧ (Below w.heap.size w w')) ?_ ?_
                   rotate_left
                   ·
                    intro hJ4
                    refine join_ (σ := Value) 6 #[true, true, true, true, false, false, true, true, true, true, true, false, false, false, false] (fun s_ => [(31, s_)]) (fun s_ w' => (Kd.R (Kd.int .u8) 5 w' w.heap.size (fun _ => True) s_ y525) ∧ (Below w.heap.size w w')) ?_ ?_
                    rotate_left
                    ·
                     intro hJ10
                     refine join_ (σ := Nat) 6 #[true, true, true, true, false, false, true, true, true, true, false, false, false, true, false] (fun s_ => [(9, .pointer (some ⟨s_, 0, none⟩))]) (fun s_ w' => (w'.heap[s_]? = some (.cells #[.slice none 0 0, .string (⟨#[]⟩ : ByteArray), .string (⟨#[]⟩ : ByteArray), .slice none 0 0] 25 (0, 0))) ∧ (w.heap.size ≤ s_) ∧ (w.heap.size ≤ s_) ∧ (Below w.heap.size w w')) ?_ ?_
                     rotate_left
                     ·
                      intro hJ13
                      refine three_ (i := 4) (j := 10) (k := 13) (Ni := some 25) (Nj := some 31) (Nk := some 9) #[true, true, true, true, true, false, true, true, true, true, false, false, false, false, false] #[true, true, true, true, false, false, true, true, true, true, true, false, false, false, false] #[true, true, true, true, false, false, true, true, true, true, false, false, false, true, false] rfl rfl rfl rfl rfl rfl (three_of HT_.out (by kernel_rfl)) (by decide) (by decide) (by decide) (fun K hK => ?_) (fun K hK => ?_) (fun K hK => ?_)
                      ·
                       skip
                       refine Kd.R_make_step (Kd.int .u8) _ 5 (by rfl) (N := 25) rfl 26 _ _ rfl ji5 rfl rfl Tryd.underlying26 (.int .u8 0) 1 info5 rfl (by decide) (by omega) 0 (ok := fun _ => True) (okp := fun _ => True) rfl (fun _ hk => hk) trivial (of_decide_eq_true (by first | (with_reducible assumption) | assumption)) (Nat.le_trans (Nat.mul_le_mul_right _ (of_decide_eq_true (by first | (with_reducible assumption) | assumption) : ji5.toNat ≤ 281474976710656)) (by omega)) (Below.refl _ _) (Nat.le_refl _) ?_
                       intro v523 w13 ho14 hb hg_ hnew_
                       clear hg_ hnew_
                       (first | rw [← Ny522.out] at ho14 | (simp only [Int.reduceToNat] at ho14; rw [← Ny522.out] at ho14))
                       have n0_ := Aside0.mk (Kd.R_lower ho14 (zK (by repeat (first | (with_reducible first | exact HB.out | apply zC | apply zA | apply zB) | exact HB.out))))
                       have n1_ := Aside0.mk (zL (by repeat (first | (with_reducible first | exact HB.out | apply zC | apply zA | apply zB) | exact HB.out)) hb)
                       clear HB
                       have HO524 := n0_
                       have HB := n1_
                       clear n0_ n1_
                       clear hb ho14
                       refine hK.out _ _ trivial (fun hHeld => ?_)
                       clear hK K
                       refine norm_ (a' := ?_) ?_ ?_
                       rotate_left
                       ·
                        show Act.put _ (some 25) _ = _
                        simp only [Act.put, List.setIfInBounds_toArray, List.set_cons_zero, List.set_cons_succ, i64_w, i32_w]
                        rfl
                       exact norm_ (by first | (simp only [putAll, Act.put, List.setIfInBounds_toArray, List.set_cons_zero, List.set_cons_succ]; done) | (simp only [putAll, Act.put, List.setIfInBounds_toArray, List.set_cons_zero, List.set_cons_succ]; rfl)) (hJ4 (v523) _ ⟨(by (with_reducible repeat (first | apply Kd.R_alloc | apply Kd.R_drewN | apply Kd.R_drew)); exact HO524.out), (by repeat (first | (with_reducible first | exact HB.out | apply zC | apply zA | apply zB) | exact HB.out))⟩)
                      ·
                       skip
                       refine Kd.R_make_step (Kd.int .u8) _ 5 (by rfl) (N := 31) rfl 26 _ _ rfl ji8 rfl rfl Tryd.underlying26 (.int .u8 0) 1 info5 rfl (by decide) (by omega) 0 (ok := fun _ => True) (okp := fun _ => True) rfl (fun _ hk => hk) trivial (of_decide_eq_true (by first | (with_reducible assumption) | assumption)) (Nat.le_trans (Nat.mul_le_mul_right _ (of_decide_eq_true (by first | (with_reducible assumption) | assumption) : ji8.toNat ≤ 281474976710656)) (by omega)) (Below.refl _ _) (Nat.le_refl _) ?_
                       intro v526 w13 ho14 hb hg_ hnew_
                       clear hg_ hnew_
                       (first | rw [← Ny525.out] at ho14 | (simp only [Int.reduceToNat] at ho14; rw [← Ny525.out] at ho14))
                       have n0_ := Aside0.mk (Kd.R_lower ho14 (zK (by repeat (first | (with_reducible first | exact HB.out | apply zC | apply zA | apply zB) | exact HB.out))))
                       have n1_ := Aside0.mk (zL (by repeat (first | (with_reducible first | exact HB.out | apply zC | apply zA | apply zB) | exact HB.out)) hb)
                       clear HB
                       have HO527 := n0_
                       have HB := n1_
                       clear n0_ n1_
                       clear hb ho14
                       refine hK.out _ _ trivial (fun hHeld => ?_)
                       clear hK K
                       refine norm_ (a' := ?_) ?_ ?_
                       rotate_left
                       ·
                        show Act.put _ (some 31) _ = _
                        simp only [Act.put, List.setIfInBounds_toArray, List.set_cons_zero, List.set_cons_succ, i64_w, i32_w]
                        rfl
                       exact norm_ (by first | (simp only [putAll, Act.put, List.setIfInBounds_toArray, List.set_cons_zero, List.set_cons_succ]; done) | (simp only [putAll, Act.put, List.setIfInBounds_toArray, List.set_cons_zero, List.set_cons_succ]; rfl)) (hJ10 (v526) _ ⟨(by (with_reducible repeat (first | apply Kd.R_alloc | apply Kd.R_drewN | apply Kd.R_drew)); exact HO527.out), (by repeat (first | (with_reducible first | exact HB.out | apply zC | apply zA | apply zB) | exact HB.out))⟩)
                      ·
                       skip
                       refine box_step ?hg (N := 9) ?hd (cs := #[.slice none 0 0, .string (⟨#[]⟩ : ByteArray), .string (⟨#[]⟩ : ByteArray), .slice none 0 0]) (t := 25) ?hr ?_; (case hd => rfl); (case hg => rfl); (case hr => first | (go_simp; done) | (go_simp; rfl))
                       intro gb528 hg w13 hbox hb
                       have n0_ := Aside0.mk (zL (by repeat (first | (with_reducible first | exact HB.out | apply zC | apply zA | apply zB) | exact HB.out)) hb)
                       have n1_ := Aside0.mk (hbox)
                       have n2_ := Aside0.mk ((by rw [hg]; exact (zK (by repeat (first | (with_reducible first | exact HB.out | apply zC | apply zA | apply zB) | exact HB.out))) : w.heap.size ≤ gb528))
                       have n3_ := Aside0.mk ((by rw [hg]; exact (zK (by repeat (first | (with_reducible first | exact HB.out | apply zC | apply zA | apply zB) | exact HB.out))) : w.heap.size ≤ gb528))
                       clear HB
                       have HB := n0_
                       have BK528 := n1_
                       have GW528 := n2_
                       have GE528 := n3_
                       clear n0_ n1_ n2_ n3_
                       clear hb hbox hg
                       refine hK.out _ _ trivial (fun hHeld => ?_)
                       clear hK K
                       refine norm_ (a' := ?_) ?_ ?_
                       rotate_left
                       ·
                        show Act.put _ (some 9) _ = _
                        simp only [Act.put, List.setIfInBounds_toArray, List.set_cons_zero, List.set_cons_succ, i64_w, i32_w]
                        rfl
                       exact norm_ (by first | (simp only [putAll, Act.put, List.setIfInBounds_toArray, List.set_cons_zero, List.set_cons_succ]; done) | (simp only [putAll, Act.put, List.setIfInBounds_toArray, List.set_cons_zero, List.set_cons_succ]; rfl)) (hJ13 (gb528) _ ⟨(by (with_reducible repeat (first | refine zG ?_ _ | refine zI ?_ | refine zF ?_ _)); exact BK528.out), GW528.out, GE528.out, (by repeat (first | (with_reducible first | exact HB.out | apply zC | apply zA | apply zB | refine zE ?_ GE528.out) | exact HB.out))⟩)
                     ·
                      skip
                      rintro gb528 w14 ⟨h0_, h1_, h2_, h3_⟩
                      have n0_ : Aside0 (w14.heap[gb528]? = some (.cells #[.slice none 0 0, .string (⟨#[]⟩ : ByteArray), .string (⟨#[]⟩ : ByteArray), .slice none 0 0] 25 (0, 0))) := ⟨h0_⟩
                      have n1_ : Aside0 (w.heap.size ≤ gb528) := ⟨h1_⟩
                      have n2_ : Aside0 (w.heap.size ≤ gb528) := ⟨h2_⟩
                      have n3_ : Aside0 (Below w.heap.size w w14) := ⟨h3_⟩
                      clear HB
                      clear h0_ h1_ h2_ h3_
                      have BK528 := n0_
                      have GW528 := n1_
                      have GE528 := n2_
                      have HB := n3_
                      clear n0_ n1_ n2_ n3_
                      have hHeld := trivial
                      refine norm_ (a' := ?_) ?_ ?_
                      rotate_left
                      ·
                       simp only [putAll, Act.put, List.setIfInBounds_toArray, List.set_cons_zero, List.set_cons_succ]
                       rfl
                      refine two_ (i := 4) (j := 10) (Ni := some 25) (Nj := some 31) #[true, true, true, true, true, false, true, true, true, true, false, false, false, true, false] #[true, true, true, true, false, false, true, true, true, true, true, false, false, true, false] rfl rfl rfl rfl (two_of HT_.out (by kernel_rfl)) (by decide) (by decide) (fun K hK => ?_) (fun K hK => ?_)
                      ·
                       skip
                       refine Kd.R_make_step (Kd.int .u8) _ 5 (by rfl) (N := 25) rfl 26 _ _ rfl ji5 rfl rfl Tryd.underlying26 (.int .u8 0) 1 info5 rfl (by decide) (by omega) 0 (ok := fun _ => True) (okp := fun _ => True) rfl (fun _ hk => hk) trivial (of_decide_eq_true (by first | (with_reducible assumption) | assumption)) (Nat.le_trans (Nat.mul_le_mul_right _ (of_decide_eq_true (by first | (with_reducible assumption) | assumption) : ji5.toNat ≤ 281474976710656)) (by omega)) (Below.refl _ _) (Nat.le_refl _) ?_
                       intro v523 w15 ho16 hb hg_ hnew_
                       clear hg_ hnew_
                       (first | rw [← Ny522.out] at ho16 | (simp only [Int.reduceToNat] at ho16; rw [← Ny522.out] at ho16))
                       have n0_ := Aside0.mk (Kd.R_lower ho16 (zK (by repeat (first | (with_reducible first | exact HB.out | apply zC | apply zA | apply zB | refine zE ?_ GE528.out) | exact HB.out))))
                       have n1_ := Aside0.mk (zM (g := gb528) (o := .cells #[.slice none 0 0, .string (⟨#[]⟩ : ByteArray), .string (⟨#[]⟩ : ByteArray), .slice none 0 0] 25 (0, 0)) (by (with_reducible repeat (first | refine zG ?_ _ | refine zI ?_ | refine zF ?_ _)); exact BK528.out) hb)
                       have n2_ := Aside0.mk (zL (by repeat (first | (with_reducible first | exact HB.out | apply zC | apply zA | apply zB | refine zE ?_ GE528.out) | exact HB.out)) hb)
                       clear BK528
                       clear HB
                       have HO524 := n0_
                       have BK528 := n1_
                       have HB := n2_
                       clear n0_ n1_ n2_
                       clear hb ho16
                       refine hK.out _ _ trivial (fun hHeld => ?_)
                       clear hK K
                       refine norm_ (a' := ?_) ?_ ?_
                       rotate_left
                       ·
                        show Act.put _ (some 25) _ = _
                        simp only [Act.put, List.setIfInBounds_toArray, List.set_cons_zero, List.set_cons_succ, i64_w, i32_w]
                        rfl
                       exact norm_ (by first | (simp only [putAll, Act.put, List.setIfInBounds_toArray, List.set_cons_zero, List.set_cons_succ]; done) | (simp only [putAll, Act.put, List.setIfInBounds_toArray, List.set_cons_zero, List.set_cons_succ]; rfl)) (hJ4_13 (v523, gb528) _ ⟨(by (with_reducible repeat (first | apply Kd.R_alloc | apply Kd.R_drewN | apply Kd.R_drew)); exact HO524.out), (by (with_reducible repeat (first | refine zG ?_ _ | refine zI ?_ | refine zF ?_ _)); exact BK528.out), GW528.out, GE528.out, (by repeat (first | (with_reducible first | exact HB.out | apply zC | apply zA | apply zB | refine zE ?_ GE528.out) | exact HB.out))⟩)
                      ·
                       skip
                       refine Kd.R_make_step (Kd.int .u8) _ 5 (by rfl) (N := 31) rfl 26 _ _ rfl ji8 rfl rfl Tryd.underlying26 (.int .u8 0) 1 info5 rfl (by decide) (by omega) 0 (ok := fun _ => True) (okp := fun _ => True) rfl (fun _ hk => hk) trivial (of_decide_eq_true (by first | (with_reducible assumption) | assumption)) (Nat.le_trans (Nat.mul_le_mul_right _ (of_decide_eq_true (by first | (with_reducible assumption) | assumption) : ji8.toNat ≤ 281474976710656)) (by omega)) (Below.refl _ _) (Nat.le_refl _) ?_
                       intro v526 w15 ho16 hb hg_ hnew_
                       clear hg_ hnew_
                       (first | rw [← Ny525.out] at ho16 | (simp only [Int.reduceToNat] at ho16; rw [← Ny525.out] at ho16))
                       have n0_ := Aside0.mk (Kd.R_lower ho16 (zK (by repeat (first | (with_reducible first | exact HB.out | apply zC | apply zA | apply zB | refine zE ?_ GE528.out) | exact HB.out))))
                       have n1_ := Aside0.mk (zM (g := gb528) (o := .cells #[.slice none 0 0, .string (⟨#[]⟩ : ByteArray), .string (⟨#[]⟩ : ByteArray), .slice none 0 0] 25 (0, 0)) (by (with_reducible repeat (first | refine zG ?_ _ | refine zI ?_ | refine zF ?_ _)); exact BK528.out) hb)
                       have n2_ := Aside0.mk (zL (by repeat (first | (with_reducible first | exact HB.out | apply zC | apply zA | apply zB | refine zE ?_ GE528.out) | exact HB.out)) hb)
                       clear BK528
                       clear HB
                       have HO527 := n0_
                       have BK528 := n1_
                       have HB := n2_
                       clear n0_ n1_ n2_
                       clear hb ho16
                       refine hK.out _ _ trivial (fun hHeld => ?_)
                       clear hK K
                       refine norm_ (a' := ?_) ?_ ?_
                       rotate_left
                       ·
                        show Act.put _ (some 31) _ = _
                        simp only [Act.put, List.setIfInBounds_toArray, List.set_cons_zero, List.set_cons_succ, i64_w, i32_w]
                        rfl
                       exact norm_ (by first | (simp only [putAll, Act.put, List.setIfInBounds_toArray, List.set_cons_zero, List.set_cons_succ]; done) | (simp only [putAll, Act.put, List.setIfInBounds_toArray, List.set_cons_zero, List.set_cons_succ]; rfl)) (hJ10_13 (v526, gb528) _ ⟨(by (with_reducible repeat (first | apply Kd.R_alloc | apply Kd.R_drewN | apply Kd.R_drew)); exact HO527.out), (by (with_reducible repeat (first | refine zG ?_ _ | refine zI ?_ | refine zF ?_ _)); exact BK528.out), GW528.out, GE528.out, (by repeat (first | (with_reducible first | exact HB.out | apply zC | apply zA | apply zB | refine zE ?_ GE528.out) | exact HB.out))⟩)
                    ·
                     skip
                     rintro v526 w15 ⟨h0_, h1_⟩
                     have n0_ : Aside0 (Kd.R (Kd.int .u8) 5 w15 w.heap.size (fun _ => True) v526 y525) := ⟨h0_⟩
                     have n1_ : Aside0 (Below w.heap.size w w15) := ⟨h1_⟩
                     clear HB
                     clear h0_ h1_
                     have HO527 := n0_
                     have HB := n1_
                     clear n0_ n1_
                     have hHeld := trivial
                     refine norm_ (a' := ?_) ?_ ?_
                     rotate_left
                     ·
                      simp only [putAll, Act.put, List.setIfInBounds_toArray, List.set_cons_zero, List.set_cons_succ]
                      rfl
                     refine three_ (i := 4) (j := 11) (k := 13) (Ni := some 25) (Nj := some 32) (Nk := some 9) #[true, true, true, true, true, false, true, true, true, true, true, false, false, false, false] #[true, true, true, true, false, false, true, true, true, true, true, true, false, false, false] #[true, true, true, true, false, false, true, true, true, true, true, false, false, true, false] rfl rfl rfl rfl rfl rfl (three_of HT_.out (by kernel_rfl)) (by decide) (by decide) (by decide) (fun K hK => ?_) (fun K hK => ?_) (fun K hK => ?_)
                     ·
                      skip
                      refine Kd.R_make_step (Kd.int .u8) _ 5 (by rfl) (N := 25) rfl 26 _ _ rfl ji5 rfl rfl Tryd.underlying26 (.int .u8 0) 1 info5 rfl (by decide) (by omega) 0 (ok := fun _ => True) (okp := fun _ => True) rfl (fun _ hk => hk) trivial (of_decide_eq_true (by first | (with_reducible assumption) | assumption)) (Nat.le_trans (Nat.mul_le_mul_right _ (of_decide_eq_true (by first | (with_reducible assumption) | assumption) : ji5.toNat ≤ 281474976710656)) (by omega)) (Below.refl _ _) (Nat.le_refl _) ?_
                      intro v523 w16 ho17 hb hg_ hnew_
                      clear hg_ hnew_
                      (first | rw [← Ny522.out] at ho17 | (simp only [Int.reduceToNat] at ho17; rw [← Ny522.out] at ho17))
                      have n0_ := Aside0.mk (Kd.R_elder' (by (with_reducible repeat (first | apply Kd.R_alloc | apply Kd.R_drewN | apply Kd.R_drew)); exact HO527.out) (Kd.R_base ho17) hb)
                      have n1_ := Aside0.mk (Kd.R_lower (Kd.R_new' ho17 (Kd.R_lt (by (with_reducible repeat (first | apply Kd.R_alloc | apply Kd.R_drewN | apply Kd.R_drew)); exact HO527.out))) (zK (by repeat (first | (with_reducible first | exact HB.out | apply zC | apply zA | apply zB) | exact HB.out))))
                      have n2_ := Aside0.mk (zL (by repeat (first | (with_reducible first | exact HB.out | apply zC | apply zA | apply zB) | exact HB.out)) hb)
                      clear HO527
                      clear HB
                      have HO527 := n0_
                      have HO524 := n1_
                      have HB := n2_
                      clear n0_ n1_ n2_
                      clear hb ho17
                      refine hK.out _ _ trivial (fun hHeld => ?_)
                      clear hK K
                      refine norm_ (a' := ?_) ?_ ?_
                      rotate_left
                      ·
                       show Act.put _ (some 25) _ = _
                       simp only [Act.put, List.setIfInBounds_toArray, List.set_cons_zero, List.set_cons_succ, i64_w, i32_w]
                       rfl
                      exact norm_ (by first | (simp only [putAll, Act.put, List.setIfInBounds_toArray, List.set_cons_zero, List.set_cons_succ]; done) | (simp only [putAll, Act.put, List.setIfInBounds_toArray, List.set_cons_zero, List.set_cons_succ]; rfl)) (hJ4_10 (v523, v526) _ ⟨(by (with_reducible repeat (first | apply Kd.R_alloc | apply Kd.R_drewN | apply Kd.R_drew)); exact Kd.R_mono HO524.out (fun _ hk => hk.2)), (by (with_reducible repeat (first | apply Kd.R_alloc | apply Kd.R_drewN | apply Kd.R_drew)); exact Kd.R_mono HO527.out (fun _ hk => hk.2)), (by repeat (first | (with_reducible first | exact HB.out | apply zC | apply zA | apply zB) | exact HB.out))⟩)
                     ·
                      skip
                      have hcv16 := own_string (P := Tryd.prog) Tryd.underlying26 Tryd.underlying5 Tryd.underlying9 (Kd.own_of_R HO527.out)
                      refine value_ (w1 := ?_) (v := ?_) (by rfl) rfl ?_ ?_
                      rotate_left 2
                      ·
                       go_simp
                       constructor
                       · rfl
                       · rfl
                      clear hcv16
                      refine hK.out _ _ trivial (fun hHeld => ?_)
                      clear hK K
                      refine norm_ (a' := ?_) ?_ ?_
                      rotate_left
                      ·
                       show Act.put _ (some 32) _ = _
                       simp only [Act.put, List.setIfInBounds_toArray, List.set_cons_zero, List.set_cons_succ, i64_w, i32_w]
                       rfl
                      exact norm_ (by first | (simp only [putAll, Act.put, List.setIfInBounds_toArray, List.set_cons_zero, List.set_cons_succ]; done) | (simp only [putAll, Act.put, List.setIfInBounds_toArray, List.set_cons_zero, List.set_cons_succ]; rfl)) (hJ10_11 (v526) _ ⟨(by (with_reducible repeat (first | apply Kd.R_alloc | apply Kd.R_drewN | apply Kd.R_drew)); exact HO527.out), (by repeat (first | (with_reducible first | exact HB.out | apply zC | apply zA | apply zB) | exact HB.out))⟩)
                     ·
                      skip
                      refine box_step ?hg (N := 9) ?hd (cs := #[.slice none 0 0, .string (⟨#[]⟩ : ByteArray), .string (⟨#[]⟩ : ByteArray), .slice none 0 0]) (t := 25) ?hr ?_; (case hd => rfl); (case hg => rfl); (case hr => first | (go_simp; done) | (go_simp; rfl))
                      intro gb528 hg w16 hbox hb
                      have n0_ := Aside0.mk (Kd.R_below (by (with_reducible repeat (first | apply Kd.R_alloc | apply Kd.R_drewN | apply Kd.R_drew)); exact HO527.out) hb)
                      have n1_ := Aside0.mk (zL (by repeat (first | (with_reducible first | exact HB.out | apply zC | apply zA | apply zB) | exact HB.out)) hb)
                      have n2_ := Aside0.mk (hbox)
                      have n3_ := Aside0.mk ((by rw [hg]; exact (zK (by repeat (first | (with_reducible first | exact HB.out | apply zC | apply zA | apply zB) | exact HB.out))) : w.heap.size ≤ gb528))
                      have n4_ := Aside0.mk ((by rw [hg]; exact (zK (by repeat (first | (with_reducible first | exact HB.out | apply zC | apply zA | apply zB) | exact HB.out))) : w.heap.size ≤ gb528))
                      clear HO527
                      clear HB
                      have HO527 := n0_
                      have HB := n1_
                      have BK528 := n2_
                      have GW528 := n3_
                      have GE528 := n4_
                      clear n0_ n1_ n2_ n3_ n4_
                      clear hb hbox hg
                      refine hK.out _ _ trivial (fun hHeld => ?_)
                      clear hK K
                      refine norm_ (a' := ?_) ?_ ?_
                      rotate_left
                      ·
                       show Act.put _ (some 9) _ = _
                       simp only [Act.put, List.setIfInBounds_toArray, List.set_cons_zero, List.set_cons_succ, i64_w, i32_w]
                       rfl
                      exact norm_ (by first | (simp only [putAll, Act.put, List.setIfInBounds_toArray, List.set_cons_zero, List.set_cons_succ]; done) | (simp only [putAll, Act.put, List.setIfInBounds_toArray, List.set_cons_zero, List.set_cons_succ]; rfl)) (hJ10_13 (v526, gb528) _ ⟨(by (with_reducible repeat (first | apply Kd.R_alloc | apply Kd.R_drewN | apply Kd.R_drew)); exact HO527.out), (by (with_reducible repeat (first | refine zG ?_ _ | refine zI ?_ | refine zF ?_ _)); exact BK528.out), GW528.out, GE528.out, (by repeat (first | (with_reducible first | exact HB.out | apply zC | apply zA | apply zB | refine zE ?_ GE528.out) | exact HB.out))⟩)
                   ·
                    skip
                    rintro v523 w15 ⟨h0_, h1_⟩
                    have n0_ : Aside0 (Kd.R (Kd.int .u8) 5 w15 w.heap.size (fun _ => True) v523 y522) := ⟨h0_⟩
                    have n1_ : Aside0 (Below w.heap.size w w15) := ⟨h1_⟩
                    clear HB
                    clear h0_ h1_
                    have HO524 := n0_
                    have HB := n1_
                    clear n0_ n1_
                    have hHeld := trivial
                    refine norm_ (a' := ?_) ?_ ?_
                    rotate_left
                    ·
                     simp only [putAll, Act.put, List.setIfInBounds_toArray, List.set_cons_zero, List.set_cons_succ]
                     rfl
                    refine three_ (i := 5) (j := 10) (k := 13) (Ni := some 26) (Nj := some 31) (Nk := some 9) #[true, true, true, true, true, true, true, true, true, true, false, false, false, false, false] #[true, true, true, true, true, false, true, true, true, true, true, false, false, false, false] #[true, true, true, true, true, false, true, true, true, true, false, false, false, true, false] rfl rfl rfl rfl rfl rfl (three_of HT_.out (by kernel_rfl)) (by decide) (by decide) (by decide) (fun K hK => ?_) (fun K hK => ?_) (fun K hK => ?_)
                    ·
                     skip
                     have hcv16 := own_string (P := Tryd.prog) Tryd.underlying26 Tryd.underlying5 Tryd.underlying9 (Kd.own_of_R HO524.out)
                     refine value_ (w1 := ?_) (v := ?_) (by rfl) rfl ?_ ?_
                     rotate_left 2
                     ·
                      go_simp
                      constructor
                      · rfl
                      · rfl
                     clear hcv16
                     refine hK.out _ _ trivial (fun hHeld => ?_)
                     clear hK K
                     refine norm_ (a' := ?_) ?_ ?_
                     rotate_left
                     ·
                      show Act.put _ (some 26) _ = _
                      simp only [Act.put, List.setIfInBounds_toArray, List.set_cons_zero, List.set_cons_succ, i64_w, i32_w]
                      rfl
                     exact norm_ (by first | (simp only [putAll, Act.put, List.setIfInBounds_toArray, List.set_cons_zero, List.set_cons_succ]; done) | (simp only [putAll, Act.put, List.setIfInBounds_toArray, List.set_cons_zero, List.set_cons_succ]; rfl)) (hJ4_5 (v523) _ ⟨(by (with_reducible repeat (first | apply Kd.R_alloc | apply Kd.R_drewN | apply Kd.R_drew)); exact HO524.out), (by repeat (first | (with_reducible first | exact HB.out | apply zC | apply zA | apply zB) | exact HB.out))⟩)
                    ·
                     skip
                     refine Kd.R_make_step (Kd.int .u8) _ 5 (by rfl) (N := 31) rfl 26 _ _ rfl ji8 rfl rfl Tryd.underlying26 (.int .u8 0) 1 info5 rfl (by decide) (by omega) 0 (ok := fun _ => True) (okp := fun _ => True) rfl (fun _ hk => hk) trivial (of_decide_eq_true (by first | (with_reducible assumption) | assumption)) (Nat.le_trans (Nat.mul_le_mul_right _ (of_decide_eq_true (by first | (with_reducible assumption) | assumption) : ji8.toNat ≤ 281474976710656)) (by omega)) (Below.refl _ _) (Nat.le_refl _) ?_
                     intro v526 w16 ho17 hb hg_ hnew_
                     clear hg_ hnew_
                     (first | rw [← Ny525.out] at ho17 | (simp only [Int.reduceToNat] at ho17; rw [← Ny525.out] at ho17))
                     have n0_ := Aside0.mk (Kd.R_elder' (by (with_reducible repeat (first | apply Kd.R_alloc | apply Kd.R_drewN | apply Kd.R_drew)); exact HO524.out) (Kd.R_base ho17) hb)
                     have n1_ := Aside0.mk (Kd.R_lower (Kd.R_new' ho17 (Kd.R_lt (by (with_reducible repeat (first | apply Kd.R_alloc | apply Kd.R_drewN | apply Kd.R_drew)); exact HO524.out))) (zK (by repeat (first | (with_reducible first | exact HB.out | apply zC | apply zA | apply zB) | exact HB.out))))
                     have n2_ := Aside0.mk (zL (by repeat (first | (with_reducible first | exact HB.out | apply zC | apply zA | apply zB) | exact HB.out)) hb)
                     clear HO524
                     clear HB
                     have HO524 := n0_
                     have HO527 := n1_
                     have HB := n2_
                     clear n0_ n1_ n2_
                     clear hb ho17
                     refine hK.out _ _ trivial (fun hHeld => ?_)
                     clear hK K
                     refine norm_ (a' := ?_) ?_ ?_
                     rotate_left
                     ·
                      show Act.put _ (some 31) _ = _
                      simp only [Act.put, List.setIfInBounds_toArray, List.set_cons_zero, List.set_cons_succ, i64_w, i32_w]
                      rfl
                     exact norm_ (by first | (simp only [putAll, Act.put, List.setIfInBounds_toArray, List.set_cons_zero, List.set_cons_succ]; done) | (simp only [putAll, Act.put, List.setIfInBounds_toArray, List.set_cons_zero, List.set_cons_succ]; rfl)) (hJ4_10 (v523, v526) _ ⟨(by (with_reducible repeat (first | apply Kd.R_alloc | apply Kd.R_drewN | apply Kd.R_drew)); exact Kd.R_mono HO524.out (fun _ hk => hk.2)), (by (with_reducible repeat (first | apply Kd.R_alloc | apply Kd.R_drewN | apply Kd.R_drew)); exact Kd.R_mono HO527.out (fun _ hk => hk.2)), (by repeat (first | (with_reducible first | exact HB.out | apply zC | apply zA | apply zB) | exact HB.out))⟩)
                    ·
                     skip
                     refine box_step ?hg (N := 9) ?hd (cs := #[.slice none 0 0, .string (⟨#[]⟩ : ByteArray), .string (⟨#[]⟩ : ByteArray), .slice none 0 0]) (t := 25) ?hr ?_; (case hd => rfl); (case hg => rfl); (case hr => first | (go_simp; done) | (go_simp; rfl))
                     intro gb528 hg w16 hbox hb
                     have n0_ := Aside0.mk (Kd.R_below (by (with_reducible repeat (first | apply Kd.R_alloc | apply Kd.R_drewN | apply Kd.R_drew)); exact HO524.out) hb)
                     have n1_ := Aside0.mk (zL (by repeat (first | (with_reducible first | exact HB.out | apply zC | apply zA | apply zB) | exact HB.out)) hb)
                     have n2_ := Aside0.mk (hbox)
                     have n3_ := Aside0.mk ((by rw [hg]; exact (zK (by repeat (first | (with_reducible first | exact HB.out | apply zC | apply zA | apply zB) | exact HB.out))) : w.heap.size ≤ gb528))
                     have n4_ := Aside0.mk ((by rw [hg]; exact (zK (by repeat (first | (with_reducible first | exact HB.out | apply zC | apply zA | apply zB) | exact HB.out))) : w.heap.size ≤ gb528))
                     clear HO524
                     clear HB
                     have HO524 := n0_
                     have HB := n1_
                     have BK528 := n2_
                     have GW528 := n3_
                     have GE528 := n4_
                     clear n0_ n1_ n2_ n3_ n4_
                     clear hb hbox hg
                     refine hK.out _ _ trivial (fun hHeld => ?_)
                     clear hK K
                     refine norm_ (a' := ?_) ?_ ?_
                     rotate_left
                     ·
                      show Act.put _ (some 9) _ = _
                      simp only [Act.put, List.setIfInBounds_toArray, List.set_cons_zero, List.set_cons_succ, i64_w, i32_w]
                      rfl
                     exact norm_ (by first | (simp only [putAll, Act.put, List.setIfInBounds_toArray, List.set_cons_zero, List.set_cons_succ]; done) | (simp only [putAll, Act.put, List.setIfInBounds_toArray, List.set_cons_zero, List.set_cons_succ]; rfl)) (hJ4_13 (v523, gb528) _ ⟨(by (with_reducible repeat (first | apply Kd.R_alloc | apply Kd.R_drewN | apply Kd.R_drew)); exact HO524.out), (by (with_reducible repeat (first | refine zG ?_ _ | refine zI ?_ | refine zF ?_ _)); exact BK528.out), GW528.out, GE528.out, (by repeat (first | (with_reducible first | exact HB.out | apply zC | apply zA | apply zB | refine zE ?_ GE528.out) | exact HB.out))⟩)
                  ·
                   skip
                   rintro ⟨v526, gb528⟩ w16 ⟨h0_, h1_, h2_, h3_, h4_⟩
                   have n0_ : Aside0 (Kd.R (Kd.int .u8) 5 w16 w.heap.size (fun _ => True) v526 y525) := ⟨h0_⟩
                   have n1_ : Aside0 (w16.heap[gb528]? = some (.cells #[.slice none 0 0, .string (⟨#[]⟩ : ByteArray), .string (⟨#[]⟩ : ByteArray), .slice none 0 0] 25 (0, 0))) := ⟨h1_⟩
                   have n2_ : Aside0 (w.heap.size ≤ gb528) := ⟨h2_⟩
                   have n3_ : Aside0 (w.heap.size ≤ gb528) := ⟨h3_⟩
                   have n4_ : Aside0 (Below w.heap.size w w16) := ⟨h4_⟩
                   clear HB
                   clear h0_ h1_ h2_ h3_ h4_
                   have HO527 := n0_
                   have BK528 := n1_
                   have GW528 := n2_
                   have GE528 := n3_
                   have HB := n4_
                   clear n0_ n1_ n2_ n3_ n4_
                   have hHeld := trivial
                   refine norm_ (a' := ?_) ?_ ?_
                   rotate_left
                   ·
                    simp only [putAll, Act.put, List.setIfInBounds_toArray, List.set_cons_zero, List.set_cons_succ]
                    rfl
                   refine two_ (i := 4) (j := 11) (Ni := some 25) (Nj := some 32) #[true, true, true, true, true, false, true, true, true, true, true, false, false, true, false] #[true, true, true, true, false, false, true, true, true, true, true, true, false, true, false] rfl rfl rfl rfl (two_of HT_.out (by kernel_rfl)) (by decide) (by decide) (fun K hK => ?_) (fun K hK => ?_)
                   ·
                    skip
                    refine Kd.R_make_step (Kd.int .u8) _ 5 (by rfl) (N := 25) rfl 26 _ _ rfl ji5 rfl rfl Tryd.underlying26 (.int .u8 0) 1 info5 rfl (by decide) (by omega) 0 (ok := fun _ => True) (okp := fun _ => True) rfl (fun _ hk => hk) trivial (of_decide_eq_true (by first | (with_reducible assumption) | assumption)) (Nat.le_trans (Nat.mul_le_mul_right _ (of_decide_eq_true (by first | (with_reducible assumption) | assumption) : ji5.toNat ≤ 281474976710656)) (by omega)) (Below.refl _ _) (Nat.le_refl _) ?_
                    intro v523 w17 ho18 hb hg_ hnew_
                    clear hg_ hnew_
                    (first | rw [← Ny522.out] at ho18 | (simp only [Int.reduceToNat] at ho18; rw [← Ny522.out] at ho18))
                    have n0_ := Aside0.mk (Kd.R_elder' (by (with_reducible repeat (first | apply Kd.R_alloc | apply Kd.R_drewN | apply Kd.R_drew)); exact HO527.out) (Kd.R_base ho18) hb)
                    have n1_ := Aside0.mk (Kd.R_lower (Kd.R_new' ho18 (Kd.R_lt (by (with_reducible repeat (first | apply Kd.R_alloc | apply Kd.R_drewN | apply Kd.R_drew)); exact HO527.out))) (zK (by repeat (first | (with_reducible first | exact HB.out | apply zC | apply zA | apply zB | refine zE ?_ GE528.out) | exact HB.out))))
                    have n2_ := Aside0.mk (zM (g := gb528) (o := .cells #[.slice none 0 0, .string (⟨#[]⟩ : ByteArray), .string (⟨#[]⟩ : ByteArray), .slice none 0 0] 25 (0, 0)) (by (with_reducible repeat (first | refine zG ?_ _ | refine zI ?_ | refine zF ?_ _)); exact BK528.out) hb)
                    have n3_ := Aside0.mk (zL (by repeat (first | (with_reducible first | exact HB.out | apply zC | apply zA | apply zB | refine zE ?_ GE528.out) | exact HB.out)) hb)
                    clear HO527
                    clear BK528
                    clear HB
                    have HO527 := n0_
                    have HO524 := n1_
                    have BK528 := n2_
                    have HB := n3_
                    clear n0_ n1_ n2_ n3_
                    clear hb ho18
                    refine hK.out _ _ trivial (fun hHeld => ?_)
                    clear hK K
                    refine norm_ (a' := ?_) ?_ ?_
                    rotate_left
                    ·
                     show Act.put _ (some 25) _ = _
                     simp only [Act.put, List.setIfInBounds_toArray, List.set_cons_zero, List.set_cons_succ, i64_w, i32_w]
                     rfl
                    exact norm_ (by first | (simp only [putAll, Act.put, List.setIfInBounds_toArray, List.set_cons_zero, List.set_cons_succ]; done) | (simp only [putAll, Act.put, List.setIfInBounds_toArray, List.set_cons_zero, List.set_cons_succ]; rfl)) (hJ4_10_13 (v523, v526, gb528) _ ⟨(by (with_reducible repeat (first | apply Kd.R_alloc | apply Kd.R_drewN | apply Kd.R_drew)); exact Kd.R_mono HO524.out (fun _ hk => hk.2)), (by (with_reducible repeat (first | apply Kd.R_alloc | apply Kd.R_drewN | apply Kd.R_drew)); exact Kd.R_mono HO527.out (fun _ hk => hk.2)), (by (with_reducible repeat (first | refine zG ?_ _ | refine zI ?_ | refine zF ?_ _)); exact BK528.out), GW528.out, GE528.out, (by repeat (first | (with_reducible first | exact HB.out | apply zC | apply zA | apply zB | refine zE ?_ GE528.out) | exact HB.out))⟩)
                   ·
                    skip
                    have hcv17 := own_string (P := Tryd.prog) Tryd.underlying26 Tryd.underlying5 Tryd.underlying9 (Kd.own_of_R HO527.out)
                    refine value_ (w1 := ?_) (v := ?_) (by rfl) rfl ?_ ?_
                    rotate_left 2
                    ·
                     go_simp
                     constructor
                     · rfl
                     · rfl
                    clear hcv17
                    refine hK.out _ _ trivial (fun hHeld => ?_)
                    clear hK K
                    refine norm_ (a' := ?_) ?_ ?_
                    rotate_left
                    ·
                     show Act.put _ (some 32) _ = _
                     simp only [Act.put, List.setIfInBounds_toArray, List.set_cons_zero, List.set_cons_succ, i64_w, i32_w]
                     rfl
                    exact norm_ (by first | (simp only [putAll, Act.put, List.setIfInBounds_toArray, List.set_cons_zero, List.set_cons_succ]; done) | (simp only [putAll, Act.put, List.setIfInBounds_toArray, List.set_cons_zero, List.set_cons_succ]; rfl)) (hJ10_11_13 (v526, gb528) _ ⟨(by (with_reducible repeat (first | apply Kd.R_alloc | apply Kd.R_drewN | apply Kd.R_drew)); exact HO527.out), (by (with_reducible repeat (first | refine zG ?_ _ | refine zI ?_ | refine zF ?_ _)); exact BK528.out), GW528.out, GE528.out, (by repeat (first | (with_reducible first | exact HB.out | apply zC | apply zA | apply zB | refine zE ?_ GE528.out) | exact HB.out))⟩)
                 ·
                  skip
                  rintro v526 w16 ⟨h0_, h1_⟩
                  have n0_ : Aside0 (Kd.R (Kd.int .u8) 5 w16 w.heap.size (fun _ => True) v526 y525) := ⟨h0_⟩
                  have n1_ : Aside0 (Below w.heap.size w w16) := ⟨h1_⟩
                  clear HB
                  clear h0_ h1_
                  have HO527 := n0_
                  have HB := n1_
                  clear n0_ n1_
                  have hHeld := trivial
                  refine norm_ (a' := ?_) ?_ ?_
                  rotate_left
                  ·
                   simp only [putAll, Act.put, List.setIfInBounds_toArray, List.set_cons_zero, List.set_cons_succ]
                   rfl
                  refine two_ (i := 4) (j := 13) (Ni := some 25) (Nj := some 9) #[true, true, true, true, true, false, true, true, true, true, true, true, false, false, false] #[true, true, true, true, false, false, true, true, true, true, true, true, false, true, false] rfl rfl rfl rfl (two_of HT_.out (by kernel_rfl)) (by decide) (by decide) (fun K hK => ?_) (fun K hK => ?_)
                  ·
                   skip
                   refine Kd.R_make_step (Kd.int .u8) _ 5 (by rfl) (N := 25) rfl 26 _ _ rfl ji5 rfl rfl Tryd.underlying26 (.int .u8 0) 1 info5 rfl (by decide) (by omega) 0 (ok := fun _ => True) (okp := fun _ => True) rfl (fun _ hk => hk) trivial (of_decide_eq_true (by first | (with_reducible assumption) | assumption)) (Nat.le_trans (Nat.mul_le_mul_right _ (of_decide_eq_true (by first | (with_reducible assumption) | assumption) : ji5.toNat ≤ 281474976710656)) (by omega)) (Below.refl _ _) (Nat.le_refl _) ?_
                   intro v523 w17 ho18 hb hg_ hnew_
                   clear hg_ hnew_
                   (first | rw [← Ny522.out] at ho18 | (simp only [Int.reduceToNat] at ho18; rw [← Ny522.out] at ho18))
                   have n0_ := Aside0.mk (Kd.R_elder' (by (with_reducible repeat (first | apply Kd.R_alloc | apply Kd.R_drewN | apply Kd.R_drew)); exact HO527.out) (Kd.R_base ho18) hb)
                   have n1_ := Aside0.mk (Kd.R_lower (Kd.R_new' ho18 (Kd.R_lt (by (with_reducible repeat (first | apply Kd.R_alloc | apply Kd.R_drewN | apply Kd.R_drew)); exact HO527.out))) (zK (by repeat (first | (with_reducible first | exact HB.out | apply zC | apply zA | apply zB) | exact HB.out))))
                   have n2_ := Aside0.mk (zL (by repeat (first | (with_reducible first | exact HB.out | apply zC | apply zA | apply zB) | exact HB.out)) hb)
                   clear HO527
                   clear HB
                   have HO527 := n0_
                   have HO524 := n1_
                   have HB := n2_
                   clear n0_ n1_ n2_
                   clear hb ho18
                   refine hK.out _ _ trivial (fun hHeld => ?_)
                   clear hK K
                   refine norm_ (a' := ?_) ?_ ?_
                   rotate_left
                   ·
                    show Act.put _ (some 25) _ = _
                    simp only [Act.put, List.setIfInBounds_toArray, List.set_cons_zero, List.set_cons_succ, i64_w, i32_w]
                    rfl
                   exact norm_ (by first | (simp only [putAll, Act.put, List.setIfInBounds_toArray, List.set_cons_zero, List.set_cons_succ]; done) | (simp only [putAll, Act.put, List.setIfInBounds_toArray, List.set_cons_zero, List.set_cons_succ]; rfl)) (hJ4_10_11 (v523, v526) _ ⟨(by (with_reducible repeat (first | apply Kd.R_alloc | apply Kd.R_drewN | apply Kd.R_drew)); exact Kd.R_mono HO524.out (fun _ hk => hk.2)), (by (with_reducible repeat (first | apply Kd.R_alloc | apply Kd.R_drewN | apply Kd.R_drew)); exact Kd.R_mono HO527.out (fun _ hk => hk.2)), (by repeat (first | (with_reducible first | exact HB.out | apply zC | apply zA | apply zB) | exact HB.out))⟩)
                  ·
                   skip
                   refine box_step ?hg (N := 9) ?hd (cs := #[.slice none 0 0, .string (⟨#[]⟩ : ByteArray), .string (⟨#[]⟩ : ByteArray), .slice none 0 0]) (t := 25) ?hr ?_; (case hd => rfl); (case hg => rfl); (case hr => first | (go_simp; done) | (go_simp; rfl))
                   intro gb528 hg w17 hbox hb
                   have n0_ := Aside0.mk (Kd.R_below (by (with_reducible repeat (first | apply Kd.R_alloc | apply Kd.R_drewN | apply Kd.R_drew)); exact HO527.out) hb)
                   have n1_ := Aside0.mk (zL (by repeat (first | (with_reducible first | exact HB.out | apply zC | apply zA | apply zB) | exact HB.out)) hb)
                   have n2_ := Aside0.mk (hbox)
                   have n3_ := Aside0.mk ((by rw [hg]; exact (zK (by repeat (first | (with_reducible first | exact HB.out | apply zC | apply zA | apply zB) | exact HB.out))) : w.heap.size ≤ gb528))
                   have n4_ := Aside0.mk ((by rw [hg]; exact (zK (by repeat (first | (with_reducible first | exact HB.out | apply zC | apply zA | apply zB) | exact HB.out))) : w.heap.size ≤ gb528))
                   clear HO527
                   clear HB
                   have HO527 := n0_
                   have HB := n1_
                   have BK528 := n2_
                   have GW528 := n3_
                   have GE528 := n4_
                   clear n0_ n1_ n2_ n3_ n4_
                   clear hb hbox hg
                   refine hK.out _ _ trivial (fun hHeld => ?_)
                   clear hK K
                   refine norm_ (a' := ?_) ?_ ?_
                   rotate_left
                   ·
                    show Act.put _ (some 9) _ = _
                    simp only [Act.put, List.setIfInBounds_toArray, List.set_cons_zero, List.set_cons_succ, i64_w, i32_w]
                    rfl
                   exact norm_ (by first | (simp only [putAll, Act.put, List.setIfInBounds_toArray, List.set_cons_zero, List.set_cons_succ]; done) | (simp only [putAll, Act.put, List.setIfInBounds_toArray, List.set_cons_zero, List.set_cons_succ]; rfl)) (hJ10_11_13 (v526, gb528) _ ⟨(by (with_reducible repeat (first | apply Kd.R_alloc | apply Kd.R_drewN | apply Kd.R_drew)); exact HO527.out), (by (with_reducible repeat (first | refine zG ?_ _ | refine zI ?_ | refine zF ?_ _)); exact BK528.out), GW528.out, GE528.out, (by repeat (first | (with_reducible first | exact HB.out | apply zC | apply zA | apply zB | refine zE ?_ GE528.out) | exact HB.out))⟩)
                ·
                 skip
                 rintro ⟨v523, gb528⟩ w16 ⟨h0_, h1_, h2_, h3_, h4_⟩
                 have n0_ : Aside0 (Kd.R (Kd.int .u8) 5 w16 w.heap.size (fun _ => True) v523 y522) := ⟨h0_⟩
                 have n1_ : Aside0 (w16.heap[gb528]? = some (.cells #[.slice none 0 0, .string (⟨#[]⟩ : ByteArray), .string (⟨#[]⟩ : ByteArray), .slice none 0 0] 25 (0, 0))) := ⟨h1_⟩
                 have n2_ : Aside0 (w.heap.size ≤ gb528) := ⟨h2_⟩
                 have n3_ : Aside0 (w.heap.size ≤ gb528) := ⟨h3_⟩
                 have n4_ : Aside0 (Below w.heap.size w w16) := ⟨h4_⟩
                 clear HB
                 clear h0_ h1_ h2_ h3_ h4_
                 have HO524 := n0_
                 have BK528 := n1_
                 have GW528 := n2_
                 have GE528 := n3_
                 have HB := n4_
                 clear n0_ n1_ n2_ n3_ n4_
                 have hHeld := trivial
                 refine norm_ (a' := ?_) ?_ ?_
                 rotate_left
                 ·
                  simp only [putAll, Act.put, List.setIfInBounds_toArray, List.set_cons_zero, List.set_cons_succ]
                  rfl
                 refine two_ (i := 5) (j := 10) (Ni := some 26) (Nj := some 31) #[true, true, true, true, true, true, true, true, true, true, false, false, false, true, false] #[true, true, true, true, true, false, true, true, true, true, true, false, false, true, false] rfl rfl rfl rfl (two_of HT_.out (by kernel_rfl)) (by decide) (by decide) (fun K hK => ?_) (fun K hK => ?_)
                 ·
                  skip
                  have hcv17 := own_string (P := Tryd.prog) Tryd.underlying26 Tryd.underlying5 Tryd.underlying9 (Kd.own_of_R HO524.out)
                  refine value_ (w1 := ?_) (v := ?_) (by rfl) rfl ?_ ?_
                  rotate_left 2
                  ·
                   go_simp
                   constructor
                   · rfl
                   · rfl
                  clear hcv17
                  refine hK.out _ _ trivial (fun hHeld => ?_)
                  clear hK K
                  refine norm_ (a' := ?_) ?_ ?_
                  rotate_left
                  ·
                   show Act.put _ (some 26) _ = _
                   simp only [Act.put, List.setIfInBounds_toArray, List.set_cons_zero, List.set_cons_succ, i64_w, i32_w]
                   rfl
                  exact norm_ (by first | (simp only [putAll, Act.put, List.setIfInBounds_toArray, List.set_cons_zero, List.set_cons_succ]; done) | (simp only [putAll, Act.put, List.setIfInBounds_toArray, List.set_cons_zero, List.set_cons_succ]; rfl)) (hJ4_5_13 (v523, gb528) _ ⟨(by (with_reducible repeat (first | apply Kd.R_alloc | apply Kd.R_drewN | apply Kd.R_drew)); exact HO524.out), (by (with_reducible repeat (first | refine zG ?_ _ | refine zI ?_ | refine zF ?_ _)); exact BK528.out), GW528.out, GE528.out, (by repeat (first | (with_reducible first | exact HB.out | apply zC | apply zA | apply zB | refine zE ?_ GE528.out) | exact HB.out))⟩)
                 ·
                  skip
                  refine Kd.R_make_step (Kd.int .u8) _ 5 (by rfl) (N := 31) rfl 26 _ _ rfl ji8 rfl rfl Tryd.underlying26 (.int .u8 0) 1 info5 rfl (by decide) (by omega) 0 (ok := fun _ => True) (okp := fun _ => True) rfl (fun _ hk => hk) trivial (of_decide_eq_true (by first | (with_reducible assumption) | assumption)) (Nat.le_trans (Nat.mul_le_mul_right _ (of_decide_eq_true (by first | (with_reducible assumption) | assumption) : ji8.toNat ≤ 281474976710656)) (by omega)) (Below.refl _ _) (Nat.le_refl _) ?_
                  intro v526 w17 ho18 hb hg_ hnew_
                  clear hg_ hnew_
                  (first | rw [← Ny525.out] at ho18 | (simp only [Int.reduceToNat] at ho18; rw [← Ny525.out] at ho18))
                  have n0_ := Aside0.mk (Kd.R_elder' (by (with_reducible repeat (first | apply Kd.R_alloc | apply Kd.R_drewN | apply Kd.R_drew)); exact HO524.out) (Kd.R_base ho18) hb)
                  have n1_ := Aside0.mk (Kd.R_lower (Kd.R_new' ho18 (Kd.R_lt (by (with_reducible repeat (first | apply Kd.R_alloc | apply Kd.R_drewN | apply Kd.R_drew)); exact HO524.out))) (zK (by repeat (first | (with_reducible first | exact HB.out | apply zC | apply zA | apply zB | refine zE ?_ GE528.out) | exact HB.out))))
                  have n2_ := Aside0.mk (zM (g := gb528) (o := .cells #[.slice none 0 0, .string (⟨#[]⟩ : ByteArray), .string (⟨#[]⟩ : ByteArray), .slice none 0 0] 25 (0, 0)) (by (with_reducible repeat (first | refine zG ?_ _ | refine zI ?_ | refine zF ?_ _)); exact BK528.out) hb)
                  have n3_ := Aside0.mk (zL (by repeat (first | (with_reducible first | exact HB.out | apply zC | apply zA | apply zB | refine zE ?_ GE528.out) | exact HB.out)) hb)
                  clear HO524
                  clear BK528
                  clear HB
                  have HO524 := n0_
                  have HO527 := n1_
                  have BK528 := n2_
                  have HB := n3_
                  clear n0_ n1_ n2_ n3_
                  clear hb ho18
                  refine hK.out _ _ trivial (fun hHeld => ?_)
                  clear hK K
                  refine norm_ (a' := ?_) ?_ ?_
                  rotate_left
                  ·
                   show Act.put _ (some 31) _ = _
                   simp only [Act.put, List.setIfInBounds_toArray, List.set_cons_zero, List.set_cons_succ, i64_w, i32_w]
                   rfl
                  exact norm_ (by first | (simp only [putAll, Act.put, List.setIfInBounds_toArray, List.set_cons_zero, List.set_cons_succ]; done) | (simp only [putAll, Act.put, List.setIfInBounds_toArray, List.set_cons_zero, List.set_cons_succ]; rfl)) (hJ4_10_13 (v523, v526, gb528) _ ⟨(by (with_reducible repeat (first | apply Kd.R_alloc | apply Kd.R_drewN | apply Kd.R_drew)); exact Kd.R_mono HO524.out (fun _ hk => hk.2)), (by (with_reducible repeat (first | apply Kd.R_alloc | apply Kd.R_drewN | apply Kd.R_drew)); exact Kd.R_mono HO527.out (fun _ hk => hk.2)), (by (with_reducible repeat (first | refine zG ?_ _ | refine zI ?_ | refine zF ?_ _)); exact BK528.out), GW528.out, GE528.out, (by repeat (first | (with_reducible first | exact HB.out | apply zC | apply zA | apply zB | refine zE ?_ GE528.out) | exact HB.out))⟩)
               ·
                skip
                rintro ⟨v523, v526⟩ w17 ⟨h0_, h1_, h2_⟩
                have n0_ : Aside0 (Kd.R (Kd.int .u8) 5 w17 w.heap.size (fun k_ => some k_ ≠ (v526 : Value).ownBlock) v523 y522) := ⟨h0_⟩
                have n1_ : Aside0 (Kd.R (Kd.int .u8) 5 w17 w.heap.size (fun k_ => some k_ ≠ (v523 : Value).ownBlock) v526 y525) := ⟨h1_⟩
                have n2_ : Aside0 (Below w.heap.size w w17) := ⟨h2_⟩
                clear HB
                clear h0_ h1_ h2_
                have HO524 := n0_
                have HO527 := n1_
                have HB := n2_
                clear n0_ n1_ n2_
                have hHeld := trivial
                refine norm_ (a' := ?_) ?_ ?_
                rotate_left
                ·
                 simp only [putAll, Act.put, List.setIfInBounds_toArray, List.set_cons_zero, List.set_cons_succ]
                 rfl
                refine three_ (i := 5) (j := 11) (k := 13) (Ni := some 26) (Nj := some 32) (Nk := some 9) #[true, true, true, true, true, true, true, true, true, true, true, false, false, false, false] #[true, true, true, true, true, false, true, true, true, true, true, true, false, false, false] #[true, true, true, true, true, false, true, true, true, true, true, false, false, true, false] rfl rfl rfl rfl rfl rfl (three_of HT_.out (by kernel_rfl)) (by decide) (by decide) (by decide) (fun K hK => ?_) (fun K hK => ?_) (fun K hK => ?_)
                ·
                 skip
                 have hcv18 := own_string (P := Tryd.prog) Tryd.underlying26 Tryd.underlying5 Tryd.underlying9 (Kd.own_of_R HO524.out)
                 refine value_ (w1 := ?_) (v := ?_) (by rfl) rfl ?_ ?_
                 rotate_left 2
                 ·
                  go_simp
                  constructor
                  · rfl
                  · rfl
                 clear hcv18
                 refine hK.out _ _ trivial (fun hHeld => ?_)
                 clear hK K
                 refine norm_ (a' := ?_) ?_ ?_
                 rotate_left
                 ·
                  show Act.put _ (some 26) _ = _
                  simp only [Act.put, List.setIfInBounds_toArray, List.set_cons_zero, List.set_cons_succ, i64_w, i32_w]
                  rfl
                 exact norm_ (by first | (simp only [putAll, Act.put, List.setIfInBounds_toArray, List.set_cons_zero, List.set_cons_succ]; done) | (simp only [putAll, Act.put, List.setIfInBounds_toArray, List.set_cons_zero, List.set_cons_succ]; rfl)) (hJ4_5_10 (v523, v526) _ ⟨(by (with_reducible repeat (first | apply Kd.R_alloc | apply Kd.R_drewN | apply Kd.R_drew)); exact HO524.out), (by (with_reducible repeat (first | apply Kd.R_alloc | apply Kd.R_drewN | apply Kd.R_drew)); exact HO527.out), (by repeat (first | (with_reducible first | exact HB.out | apply zC | apply zA | apply zB) | exact HB.out))⟩)
                ·
                 skip
                 have hcv18 := own_string (P := Tryd.prog) Tryd.underlying26 Tryd.underlying5 Tryd.underlying9 (Kd.own_of_R HO527.out)
                 refine value_ (w1 := ?_) (v := ?_) (by rfl) rfl ?_ ?_
                 rotate_left 2
                 ·
                  go_simp
                  constructor
                  · rfl
                  · rfl
                 clear hcv18
                 refine hK.out _ _ trivial (fun hHeld => ?_)
                 clear hK K
                 refine norm_ (a' := ?_) ?_ ?_
                 rotate_left
                 ·
                  show Act.put _ (some 32) _ = _
                  simp only [Act.put, List.setIfInBounds_toArray, List.set_cons_zero, List.set_cons_succ, i64_w, i32_w]
                  rfl
                 exact norm_ (by first | (simp only [putAll, Act.put, List.setIfInBounds_toArray, List.set_cons_zero, List.set_cons_succ]; done) | (simp only [putAll, Act.put, List.setIfInBounds_toArray, List.set_cons_zero, List.set_cons_succ]; rfl)) (hJ4_10_11 (v523, v526) _ ⟨(by (with_reducible repeat (first | apply Kd.R_alloc | apply Kd.R_drewN | apply Kd.R_drew)); exact HO524.out), (by (with_reducible repeat (first | apply Kd.R_alloc | apply Kd.R_drewN | apply Kd.R_drew)); exact HO527.out), (by repeat (first | (with_reducible first | exact HB.out | apply zC | apply zA | apply zB) | exact HB.out))⟩)
                ·
                 skip
                 refine box_step ?hg (N := 9) ?hd (cs := #[.slice none 0 0, .string (⟨#[]⟩ : ByteArray), .string (⟨#[]⟩ : ByteArray), .slice none 0 0]) (t := 25) ?hr ?_; (case hd => rfl); (case hg => rfl); (case hr => first | (go_simp; done) | (go_simp; rfl))
                 intro gb528 hg w18 hbox hb
                 have n0_ := Aside0.mk (Kd.R_below (by (with_reducible repeat (first | apply Kd.R_alloc | apply Kd.R_drewN | apply Kd.R_drew)); exact HO524.out) hb)
                 have n1_ := Aside0.mk (Kd.R_below (by (with_reducible repeat (first | apply Kd.R_alloc | apply Kd.R_drewN | apply Kd.R_drew)); exact HO527.out) hb)
                 have n2_ := Aside0.mk (zL (by repeat (first | (with_reducible first | exact HB.out | apply zC | apply zA | apply zB) | exact HB.out)) hb)
                 have n3_ := Aside0.mk (hbox)
                 have n4_ := Aside0.mk ((by rw [hg]; exact (zK (by repeat (first | (with_reducible first | exact HB.out | apply zC | apply zA | apply zB) | exact HB.out))) : w.heap.size ≤ gb528))
                 have n5_ := Aside0.mk ((by rw [hg]; exact (zK (by repeat (first | (with_reducible first | exact HB.out | apply zC | apply zA | apply zB) | exact HB.out))) : w.heap.size ≤ gb528))
                 clear HO524
                 clear HO527
                 clear HB
                 have HO524 := n0_
                 have HO527 := n1_
                 have HB := n2_
                 have BK528 := n3_
                 have GW528 := n4_
                 have GE528 := n5_
                 clear n0_ n1_ n2_ n3_ n4_ n5_
                 clear hb hbox hg
                 refine hK.out _ _ trivial (fun hHeld => ?_)
                 clear hK K
                 refine norm_ (a' := ?_) ?_ ?_
                 rotate_left
                 ·
                  show Act.put _ (some 9) _ = _
                  simp only [Act.put, List.setIfInBounds_toArray, List.set_cons_zero, List.set_cons_succ, i64_w, i32_w]
                  rfl
                 exact norm_ (by first | (simp only [putAll, Act.put, List.setIfInBounds_toArray, List.set_cons_zero, List.set_cons_succ]; done) | (simp only [putAll, Act.put, List.setIfInBounds_toArray, List.set_cons_zero, List.set_cons_succ]; rfl)) (hJ4_10_13 (v523, v526, gb528) _ ⟨(by (with_reducible repeat (first | apply Kd.R_alloc | apply Kd.R_drewN | apply Kd.R_drew)); exact HO524.out), (by (with_reducible repeat (first | apply Kd.R_alloc | apply Kd.R_drewN | apply Kd.R_drew)); exact HO527.out), (by (with_reducible repeat (first | refine zG ?_ _ | refine zI ?_ | refine zF ?_ _)); exact BK528.out), GW528.out, GE528.out, (by repeat (first | (with_reducible first | exact HB.out | apply zC | apply zA | apply zB | refine zE ?_ GE528.out) | exact HB.out))⟩)
              ·
               skip
               rintro v523 w16 ⟨h0_, h1_⟩
               have n0_ : Aside0 (Kd.R (Kd.int .u8) 5 w16 w.heap.size (fun _ => True) v523 y522) := ⟨h0_⟩
               have n1_ : Aside0 (Below w.heap.size w w16) := ⟨h1_⟩
               clear HB
               clear h0_ h1_
               have HO524 := n0_
               have HB := n1_
               clear n0_ n1_
               have hHeld := trivial
               refine norm_ (a' := ?_) ?_ ?_
               rotate_left
               ·
                simp only [putAll, Act.put, List.setIfInBounds_toArray, List.set_cons_zero, List.set_cons_succ]
                rfl
               refine two_ (i := 10) (j := 13) (Ni := some 31) (Nj := some 9) #[true, true, true, true, true, true, true, true, true, true, true, false, false, false, false] #[true, true, true, true, true, true, true, true, true, true, false, false, false, true, false] rfl rfl rfl rfl (two_of HT_.out (by kernel_rfl)) (by decide) (by decide) (fun K hK => ?_) (fun K hK => ?_)
               ·
                skip
                refine Kd.R_make_step (Kd.int .u8) _ 5 (by rfl) (N := 31) rfl 26 _ _ rfl ji8 rfl rfl Tryd.underlying26 (.int .u8 0) 1 info5 rfl (by decide) (by omega) 0 (ok := fun _ => True) (okp := fun _ => True) rfl (fun _ hk => hk) trivial (of_decide_eq_true (by first | (with_reducible assumption) | assumption)) (Nat.le_trans (Nat.mul_le_mul_right _ (of_decide_eq_true (by first | (with_reducible assumption) | assumption) : ji8.toNat ≤ 281474976710656)) (by omega)) (Below.refl _ _) (Nat.le_refl _) ?_
                intro v526 w17 ho18 hb hg_ hnew_
                clear hg_ hnew_
                (first | rw [← Ny525.out] at ho18 | (simp only [Int.reduceToNat] at ho18; rw [← Ny525.out] at ho18))
                have n0_ := Aside0.mk (Kd.R_elder' (by (with_reducible repeat (first | apply Kd.R_alloc | apply Kd.R_drewN | apply Kd.R_drew)); exact HO524.out) (Kd.R_base ho18) hb)
                have n1_ := Aside0.mk (Kd.R_lower (Kd.R_new' ho18 (Kd.R_lt (by (with_reducible repeat (first | apply Kd.R_alloc | apply Kd.R_drewN | apply Kd.R_drew)); exact HO524.out))) (zK (by repeat (first | (with_reducible first | exact HB.out | apply zC | apply zA | apply zB) | exact HB.out))))
                have n2_ := Aside0.mk (zL (by repeat (first | (with_reducible first | exact HB.out | apply zC | apply zA | apply zB) | exact HB.out)) hb)
                clear HO524
                clear HB
                have HO524 := n0_
                have HO527 := n1_
                have HB := n2_
                clear n0_ n1_ n2_
                clear hb ho18
                refine hK.out _ _ trivial (fun hHeld => ?_)
                clear hK K
                refine norm_ (a' := ?_) ?_ ?_
                rotate_left
                ·
                 show Act.put _ (some 31) _ = _
                 simp only [Act.put, List.setIfInBounds_toArray, List.set_cons_zero, List.set_cons_succ, i64_w, i32_w]
                 rfl
                exact norm_ (by first | (simp only [putAll, Act.put, List.setIfInBounds_toArray, List.set_cons_zero, List.set_cons_succ]; done) | (simp only [putAll, Act.put, List.setIfInBounds_toArray, List.set_cons_zero, List.set_cons_succ]; rfl)) (hJ4_5_10 (v523, v526) _ ⟨(by (with_reducible repeat (first | apply Kd.R_alloc | apply Kd.R_drewN | apply Kd.R_drew)); exact Kd.R_mono HO524.out (fun _ hk => hk.2)), (by (with_reducible repeat (first | apply Kd.R_alloc | apply Kd.R_drewN | apply Kd.R_drew)); exact Kd.R_mono HO527.out (fun _ hk => hk.2)), (by repeat (first | (with_reducible first | exact HB.out | apply zC | apply zA | apply zB) | exact HB.out))⟩)
               ·
                skip
                refine box_step ?hg (N := 9) ?hd (cs := #[.slice none 0 0, .string (⟨#[]⟩ : ByteArray), .string (⟨#[]⟩ : ByteArray), .slice none 0 0]) (t := 25) ?hr ?_; (case hd => rfl); (case hg => rfl); (case hr => first | (go_simp; done) | (go_simp; rfl))
                intro gb528 hg w17 hbox hb
                have n0_ := Aside0.mk (Kd.R_below (by (with_reducible repeat (first | apply Kd.R_alloc | apply Kd.R_drewN | apply Kd.R_drew)); exact HO524.out) hb)
                have n1_ := Aside0.mk (zL (by repeat (first | (with_reducible first | exact HB.out | apply zC | apply zA | apply zB) | exact HB.out)) hb)
                have n2_ := Aside0.mk (hbox)
                have n3_ := Aside0.mk ((by rw [hg]; exact (zK (by repeat (first | (with_reducible first | exact HB.out | apply zC | apply zA | apply zB) | exact HB.out))) : w.heap.size ≤ gb528))
                have n4_ := Aside0.mk ((by rw [hg]; exact (zK (by repeat (first | (with_reducible first | exact HB.out | apply zC | apply zA | apply zB) | exact HB.out))) : w.heap.size ≤ gb528))
                clear HO524
                clear HB
                have HO524 := n0_
                have HB := n1_
                have BK528 := n2_
                have GW528 := n3_
                have GE528 := n4_
                clear n0_ n1_ n2_ n3_ n4_
                clear hb hbox hg
                refine hK.out _ _ trivial (fun hHeld => ?_)
                clear hK K
                refine norm_ (a' := ?_) ?_ ?_
                rotate_left
                ·
                 show Act.put _ (some 9) _ = _
                 simp only [Act.put, List.setIfInBounds_toArray, List.set_cons_zero, List.set_cons_succ, i64_w, i32_w]
                 rfl
                exact norm_ (by first | (simp only [putAll, Act.put, List.setIfInBounds_toArray, List.set_cons_zero, List.set_cons_succ]; done) | (simp only [putAll, Act.put, List.setIfInBounds_toArray, List.set_cons_zero, List.set_cons_succ]; rfl)) (hJ4_5_13 (v523, gb528) _ ⟨(by (with_reducible repeat (first | apply Kd.R_alloc | apply Kd.R_drewN | apply Kd.R_drew)); exact HO524.out), (by (with_reducible repeat (first | refine zG ?_ _ | refine zI ?_ | refine zF ?_ _)); exact BK528.out), GW528.out, GE528.out, (by repeat (first | (with_reducible first | exact HB.out | apply zC | apply zA | apply zB | refine zE ?_ GE528.out) | exact HB.out))⟩)
             ·
              skip
              rintro ⟨v526, gb528⟩ w17 ⟨h0_, h1_, h2_, h3_, h4_⟩
              have n0_ : Aside0 (Kd.R (Kd.int .u8) 5 w17 w.heap.size (fun _ => True) v526 y525) := ⟨h0_⟩
              have n1_ : Aside0 (w17.heap[gb528]? = some (.cells #[.slice none 0 0, .string (⟨#[]⟩ : ByteArray), .string (⟨#[]⟩ : ByteArray), .slice none 0 0] 25 (0, 0))) := ⟨h1_⟩
              have n2_ : Aside0 (w.heap.size ≤ gb528) := ⟨h2_⟩
              have n3_ : Aside0 (w.heap.size ≤ gb528) := ⟨h3_⟩
              have n4_ : Aside0 (Below w.heap.size w w17) := ⟨h4_⟩
              clear HB
              clear h0_ h1_ h2_ h3_ h4_
              have HO527 := n0_
              have BK528 := n1_
              have GW528 := n2_
              have GE528 := n3_
              have HB := n4_
              clear n0_ n1_ n2_ n3_ n4_
              have hHeld := trivial
              refine norm_ (a' := ?_) ?_ ?_
              rotate_left
              ·
               simp only [putAll, Act.put, List.setIfInBounds_toArray, List.set_cons_zero, List.set_cons_succ]
               rfl
              refine one_ (i := 4) (N := some 25) #[true, true, true, true, true, false, true, true, true, true, true, true, false, true, false] rfl rfl (one_of HT_.out (by kernel_rfl)) (by decide) (fun K hK => ?_)
              refine Kd.R_make_step (Kd.int .u8) _ 5 (by rfl) (N := 25) rfl 26 _ _ rfl ji5 rfl rfl Tryd.underlying26 (.int .u8 0) 1 info5 rfl (by decide) (by omega) 0 (ok := fun _ => True) (okp := fun _ => True) rfl (fun _ hk => hk) trivial (of_decide_eq_true (by first | (with_reducible assumption) | assumption)) (Nat.le_trans (Nat.mul_le_mul_right _ (of_decide_eq_true (by first | (with_reducible assumption) | assumption) : ji5.toNat ≤ 281474976710656)) (by omega)) (Below.refl _ _) (Nat.le_refl _) ?_
              intro v523 w18 ho19 hb hg_ hnew_
              clear hg_ hnew_
              (first | rw [← Ny522.out] at ho19 | (simp only [Int.reduceToNat] at ho19; rw [← Ny522.out] at ho19))
              have n0_ := Aside0.mk (Kd.R_elder' (by (with_reducible repeat (first | apply Kd.R_alloc | apply Kd.R_drewN | apply Kd.R_drew)); exact HO527.out) (Kd.R_base ho19) hb)
              have n1_ := Aside0.mk (Kd.R_lower (Kd.R_new' ho19 (Kd.R_lt (by (with_reducible repeat (first | apply Kd.R_alloc | apply Kd.R_drewN | apply Kd.R_drew)); exact HO527.out))) (zK (by repeat (first | (with_reducible first | exact HB.out | apply zC | apply zA | apply zB | refine zE ?_ GE528.out) | exact HB.out))))
              have n2_ := Aside0.mk (zM (g := gb528) (o := .cells #[.slice none 0 0, .string (⟨#[]⟩ : ByteArray), .string (⟨#[]⟩ : ByteArray), .slice none 0 0] 25 (0, 0)) (by (with_reducible repeat (first | refine zG ?_ _ | refine zI ?_ | refine zF ?_ _)); exact BK528.out) hb)
              have n3_ := Aside0.mk (zL (by repeat (first | (with_reducible first | exact HB.out | apply zC | apply zA | apply zB | refine zE ?_ GE528.out) | exact HB.out)) hb)
              clear HO527
              clear BK528
              clear HB
              have HO527 := n0_
              have HO524 := n1_
              have BK528 := n2_
              have HB := n3_
              clear n0_ n1_ n2_ n3_
              clear hb ho19
              refine hK.out _ _ trivial (fun hHeld => ?_)
              clear hK K
              refine norm_ (a' := ?_) ?_ ?_
              rotate_left
              ·
               show Act.put _ (some 25) _ = _
               simp only [Act.put, List.setIfInBounds_toArray, List.set_cons_zero, List.set_cons_succ, i64_w, i32_w]
               rfl
              exact norm_ (by first | (simp only [putAll, Act.put, List.setIfInBounds_toArray, List.set_cons_zero, List.set_cons_succ]; done) | (simp only [putAll, Act.put, List.setIfInBounds_toArray, List.set_cons_zero, List.set_cons_succ]; rfl)) (hJ4_10_11_13 (v523, v526, gb528) _ ⟨(by (with_reducible repeat (first | apply Kd.R_alloc | apply Kd.R_drewN | apply Kd.R_drew)); exact Kd.R_mono HO524.out (fun _ hk => hk.2)), (by (with_reducible repeat (first | apply Kd.R_alloc | apply Kd.R_drewN | apply Kd.R_drew)); exact Kd.R_mono HO527.out (fun _ hk => hk.2)), (by (with_reducible repeat (first | refine zG ?_ _ | refine zI ?_ | refine zF ?_ _)); exact BK528.out), GW528.out, GE528.out, (by repeat (first | (with_reducible first | exact HB.out | apply zC | apply zA | apply zB | refine zE ?_ GE528.out) | exact HB.out))⟩)
            ·
             skip
             rintro ⟨v523, v526, gb528⟩ w18 ⟨h0_, h1_, h2_, h3_, h4_, h5_⟩
             have n0_ : Aside0 (Kd.R (Kd.int .u8) 5 w18 w.heap.size (fun k_ => some k_ ≠ (v526 : Value).ownBlock) v523 y522) := ⟨h0_⟩
             have n1_ : Aside0 (Kd.R (Kd.int .u8) 5 w18 w.heap.size (fun k_ => some k_ ≠ (v523 : Value).ownBlock) v526 y525) := ⟨h1_⟩
             have n2_ : Aside0 (w18.heap[gb528]? = some (.cells #[.slice none 0 0, .string (⟨#[]⟩ : ByteArray), .string (⟨#[]⟩ : ByteArray), .slice none 0 0] 25 (0, 0))) := ⟨h2_⟩
             have n3_ : Aside0 (w.heap.size ≤ gb528) := ⟨h3_⟩
             have n4_ : Aside0 (w.heap.size ≤ gb528) := ⟨h4_⟩
             have n5_ : Aside0 (Below w.heap.size w w18) := ⟨h5_⟩
             clear HB
             clear h0_ h1_ h2_ h3_ h4_ h5_
             have HO524 := n0_
             have HO527 := n1_
             have BK528 := n2_
             have GW528 := n3_
             have GE528 := n4_
             have HB := n5_
             clear n0_ n1_ n2_ n3_ n4_ n5_
             have hHeld := trivial
             refine norm_ (a' := ?_) ?_ ?_
             rotate_left
             ·
              simp only [putAll, Act.put, List.setIfInBounds_toArray, List.set_cons_zero, List.set_cons_succ]
              rfl
             refine two_ (i := 5) (j := 11) (Ni := some 26) (Nj := some 32) #[true, true, true, true, true, true, true, true, true, true, true, false, false, true, false] #[true, true, true, true, true, false, true, true, true, true, true, true, false, true, false] rfl rfl rfl rfl (two_of HT_.out (by kernel_rfl)) (by decide) (by decide) (fun K hK => ?_) (fun K hK => ?_)
             ·
              skip
              have hcv19 := own_string (P := Tryd.prog) Tryd.underlying26 Tryd.underlying5 Tryd.underlying9 (Kd.own_of_R HO524.out)
              refine value_ (w1 := ?_) (v := ?_) (by rfl) rfl ?_ ?_
              rotate_left 2
              ·
               go_simp
               constructor
               · rfl
               · rfl
              clear hcv19
              refine hK.out _ _ trivial (fun hHeld => ?_)
              clear hK K
              refine norm_ (a' := ?_) ?_ ?_
              rotate_left
              ·
               show Act.put _ (some 26) _ = _
               simp only [Act.put, List.setIfInBounds_toArray, List.set_cons_zero, List.set_cons_succ, i64_w, i32_w]
               rfl
              exact norm_ (by first | (simp only [putAll, Act.put, List.setIfInBounds_toArray, List.set_cons_zero, List.set_cons_succ]; done) | (simp only [putAll, Act.put, List.setIfInBounds_toArray, List.set_cons_zero, List.set_cons_succ]; rfl)) (hJ4_5_10_13 (v523, v526, gb528) _ ⟨(by (with_reducible repeat (first | apply Kd.R_alloc | apply Kd.R_drewN | apply Kd.R_drew)); exact HO524.out), (by (with_reducible repeat (first | apply Kd.R_alloc | apply Kd.R_drewN | apply Kd.R_drew)); exact HO527.out), (by (with_reducible repeat (first | refine zG ?_ _ | refine zI ?_ | refine zF ?_ _)); exact BK528.out), GW528.out, GE528.out, (by repeat (first | (with_reducible first | exact HB.out | apply zC | apply zA | apply zB | refine zE ?_ GE528.out) | exact HB.out))⟩)
             ·
              skip
              have hcv19 := own_string (P := Tryd.prog) Tryd.underlying26 Tryd.underlying5 Tryd.underlying9 (Kd.own_of_R HO527.out)
              refine value_ (w1 := ?_) (v := ?_) (by rfl) rfl ?_ ?_
              rotate_left 2
              ·
               go_simp
               constructor
               · rfl
               · rfl
              clear hcv19
              refine hK.out _ _ trivial (fun hHeld => ?_)
              clear hK K
              refine norm_ (a' := ?_) ?_ ?_
              rotate_left
              ·
               show Act.put _ (some 32) _ = _
               simp only [Act.put, List.setIfInBounds_toArray, List.set_cons_zero, List.set_cons_succ, i64_w, i32_w]
               rfl
              exact norm_ (by first | (simp only [putAll, Act.put, List.setIfInBounds_toArray, List.set_cons_zero, List.set_cons_succ]; done) | (simp only [putAll, Act.put, List.setIfInBounds_toArray, List.set_cons_zero, List.set_cons_succ]; rfl)) (hJ4_10_11_13 (v523, v526, gb528) _ ⟨(by (with_reducible repeat (first | apply Kd.R_alloc | apply Kd.R_drewN | apply Kd.R_drew)); exact HO524.out), (by (with_reducible repeat (first | apply Kd.R_alloc | apply Kd.R_drewN | apply Kd.R_drew)); exact HO527.out), (by (with_reducible repeat (first | refine zG ?_ _ | refine zI ?_ | refine zF ?_ _)); exact BK528.out), GW528.out, GE528.out, (by repeat (first | (with_reducible first | exact HB.out | apply zC | apply zA | apply zB | refine zE ?_ GE528.out) | exact HB.out))⟩)
           ·
            skip
            rintro ⟨v523, v526⟩ w18 ⟨h0_, h1_, h2_⟩
            have n0_ : Aside0 (Kd.R (Kd.int .u8) 5 w18 w.heap.size (fun k_ => some k_ ≠ (v526 : Value).ownBlock) v523 y522) := ⟨h0_⟩
            have n1_ : Aside0 (Kd.R (Kd.int .u8) 5 w18 w.heap.size (fun k_ => some k_ ≠ (v523 : Value).ownBlock) v526 y525) := ⟨h1_⟩
            have n2_ : Aside0 (Below w.heap.size w w18) := ⟨h2_⟩
            clear HB
            clear h0_ h1_ h2_
            have HO524 := n0_
            have HO527 := n1_
            have HB := n2_
            clear n0_ n1_ n2_
            have hHeld := trivial
            refine norm_ (a' := ?_) ?_ ?_
            rotate_left
            ·
             simp only [putAll, Act.put, List.setIfInBounds_toArray, List.set_cons_zero, List.set_cons_succ]
             rfl
            refine two_ (i := 5) (j := 13) (Ni := some 26) (Nj := some 9) #[true, true, true, true, true, true, true, true, true, true, true, true, false, false, false] #[true, true, true, true, true, false, true, true, true, true, true, true, false, true, false] rfl rfl rfl rfl (two_of HT_.out (by kernel_rfl)) (by decide) (by decide) (fun K hK => ?_) (fun K hK => ?_)
            ·
             skip
             have hcv19 := own_string (P := Tryd.prog) Tryd.underlying26 Tryd.underlying5 Tryd.underlying9 (Kd.own_of_R HO524.out)
             refine value_ (w1 := ?_) (v := ?_) (by rfl) rfl ?_ ?_
             rotate_left 2
             ·
              go_simp
              constructor
              · rfl
              · rfl
             clear hcv19
             refine hK.out _ _ trivial (fun hHeld => ?_)
             clear hK K
             refine norm_ (a' := ?_) ?_ ?_
             rotate_left
             ·
              show Act.put _ (some 26) _ = _
              simp only [Act.put, List.setIfInBounds_toArray, List.set_cons_zero, List.set_cons_succ, i64_w, i32_w]
              rfl
             refine pure_ (i := 12) (N := some 33) (v := ?_) (a' := ?_) #[true, true, true, true, true, true, true, true, true, true, true, true, true, false, false] rfl rfl (zP HT_.out (by kernel_rfl)) (fun _ _ _ h => h) (Or.inl ⟨by rfl, ?_⟩) ?_ ?_
             rotate_left
             ·
              intro w'
              go_simp
              with_reducible rfl
             rotate_left
             ·
              simp only [Act.put, List.setIfInBounds_toArray, List.set_cons_zero, List.set_cons_succ, i64_w, i32_w]
              rfl
             exact norm_ (by first | (simp only [putAll, Act.put, List.setIfInBounds_toArray, List.set_cons_zero, List.set_cons_succ]; done) | (simp only [putAll, Act.put, List.setIfInBounds_toArray, List.set_cons_zero, List.set_cons_succ]; rfl)) (hJ4_5_10_11 (v523, v526) _ ⟨(by (with_reducible repeat (first | apply Kd.R_alloc | apply Kd.R_drewN | apply Kd.R_drew)); exact HO524.out), (by (with_reducible repeat (first | apply Kd.R_alloc | apply Kd.R_drewN | apply Kd.R_drew)); exact HO527.out), (by repeat (first | (with_reducible first | exact HB.out | apply zC | apply zA | apply zB) | exact HB.out))⟩)
            ·
             skip
             refine box_step ?hg (N := 9) ?hd (cs := #[.slice none 0 0, .string (⟨#[]⟩ : ByteArray), .string (⟨#[]⟩ : ByteArray), .slice none 0 0]) (t := 25) ?hr ?_; (case hd => rfl); (case hg => rfl); (case hr => first | (go_simp; done) | (go_simp; rfl))
             intro gb528 hg w19 hbox hb
             have n0_ := Aside0.mk (Kd.R_below (by (with_reducible repeat (first | apply Kd.R_alloc | apply Kd.R_drewN | apply Kd.R_drew)); exact HO524.out) hb)
             have n1_ := Aside0.mk (Kd.R_below (by (with_reducible repeat (first | apply Kd.R_alloc | apply Kd.R_drewN | apply Kd.R_drew)); exact HO527.out) hb)
             have n2_ := Aside0.mk (zL (by repeat (first | (with_reducible first | exact HB.out | apply zC | apply zA | apply zB) | exact HB.out)) hb)
             have n3_ := Aside0.mk (hbox)
             have n4_ := Aside0.mk ((by rw [hg]; exact (zK (by repeat (first | (with_reducible first | exact HB.out | apply zC | apply zA | apply zB) | exact HB.out))) : w.heap.size ≤ gb528))
             have n5_ := Aside0.mk ((by rw [hg]; exact (zK (by repeat (first | (with_reducible first | exact HB.out | apply zC | apply zA | apply zB) | exact HB.out))) : w.heap.size ≤ gb528))
             clear HO524
             clear HO527
             clear HB
             have HO524 := n0_
             have HO527 := n1_
             have HB := n2_
             have BK528 := n3_
             have GW528 := n4_
             have GE528 := n5_
             clear n0_ n1_ n2_ n3_ n4_ n5_
             clear hb hbox hg
             refine hK.out _ _ trivial (fun hHeld => ?_)
             clear hK K
             refine norm_ (a' := ?_) ?_ ?_
             rotate_left
             ·
              show Act.put _ (some 9) _ = _
              simp only [Act.put, List.setIfInBounds_toArray, List.set_cons_zero, List.set_cons_succ, i64_w, i32_w]
              rfl
             exact norm_ (by first | (simp only [putAll, Act.put, List.setIfInBounds_toArray, List.set_cons_zero, List.set_cons_succ]; done) | (simp only [putAll, Act.put, List.setIfInBounds_toArray, List.set_cons_zero, List.set_cons_succ]; rfl)) (hJ4_10_11_13 (v523, v526, gb528) _ ⟨(by (with_reducible repeat (first | apply Kd.R_alloc | apply Kd.R_drewN | apply Kd.R_drew)); exact HO524.out), (by (with_reducible repeat (first | apply Kd.R_alloc | apply Kd.R_drewN | apply Kd.R_drew)); exact HO527.out), (by (with_reducible repeat (first | refine zG ?_ _ | refine zI ?_ | refine zF ?_ _)); exact BK528.out), GW528.out, GE528.out, (by repeat (first | (with_reducible first | exact HB.out | apply zC | apply zA | apply zB | refine zE ?_ GE528.out) | exact HB.out))⟩)
          ·
           skip
           rintro ⟨v523, gb528⟩ w17 ⟨h0_, h1_, h2_, h3_, h4_⟩
           have n0_ : Aside0 (Kd.R (Kd.int .u8) 5 w17 w.heap.size (fun _ => True) v523 y522) := ⟨h0_⟩
           have n1_ : Aside0 (w17.heap[gb528]? = some (.cells #[.slice none 0 0, .string (⟨#[]⟩ : ByteArray), .string (⟨#[]⟩ : ByteArray), .slice none 0 0] 25 (0, 0))) := ⟨h1_⟩
           have n2_ : Aside0 (w.heap.size ≤ gb528) := ⟨h2_⟩
           have n3_ : Aside0 (w.heap.size ≤ gb528) := ⟨h3_⟩
           have n4_ : Aside0 (Below w.heap.size w w17) := ⟨h4_⟩
           clear HB
           clear h0_ h1_ h2_ h3_ h4_
           have HO524 := n0_
           have BK528 := n1_
           have GW528 := n2_
           have GE528 := n3_
           have HB := n4_
           clear n0_ n1_ n2_ n3_ n4_
           have hHeld := trivial
           refine norm_ (a' := ?_) ?_ ?_
           rotate_left
           ·
            simp only [putAll, Act.put, List.setIfInBounds_toArray, List.set_cons_zero, List.set_cons_succ]
            rfl
           refine one_ (i := 10) (N := some 31) #[true, true, true, true, true, true, true, true, true, true, true, false, false, true, false] rfl rfl (one_of HT_.out (by kernel_rfl)) (by decide) (fun K hK => ?_)
           refine Kd.R_make_step (Kd.int .u8) _ 5 (by rfl) (N := 31) rfl 26 _ _ rfl ji8 rfl rfl Tryd.underlying26 (.int .u8 0) 1 info5 rfl (by decide) (by omega) 0 (ok := fun _ => True) (okp := fun _ => True) rfl (fun _ hk => hk) trivial (of_decide_eq_true (by first | (with_reducible assumption) | assumption)) (Nat.le_trans (Nat.mul_le_mul_right _ (of_decide_eq_true (by first | (with_reducible assumption) | assumption) : ji8.toNat ≤ 281474976710656)) (by omega)) (Below.refl _ _) (Nat.le_refl _) ?_
           intro v526 w18 ho19 hb hg_ hnew_
           clear hg_ hnew_
           (first | rw [← Ny525.out] at ho19 | (simp only [Int.reduceToNat] at ho19; rw [← Ny525.out] at ho19))
           have n0_ := Aside0.mk (Kd.R_elder' (by (with_reducible repeat (first | apply Kd.R_alloc | apply Kd.R_drewN | apply Kd.R_drew)); exact HO524.out) (Kd.R_base ho19) hb)
           have n1_ := Aside0.mk (Kd.R_lower (Kd.R_new' ho19 (Kd.R_lt (by (with_reducible repeat (first | apply Kd.R_alloc | apply Kd.R_drewN | apply Kd.R_drew)); exact HO524.out))) (zK (by repeat (first | (with_reducible first | exact HB.out | apply zC | apply zA | apply zB | refine zE ?_ GE528.out) | exact HB.out))))
           have n2_ := Aside0.mk (zM (g := gb528) (o := .cells #[.slice none 0 0, .string (⟨#[]⟩ : ByteArray), .string (⟨#[]⟩ : ByteArray), .slice none 0 0] 25 (0, 0)) (by (with_reducible repeat (first | refine zG ?_ _ | refine zI ?_ | refine zF ?_ _)); exact BK528.out) hb)
           have n3_ := Aside0.mk (zL (by repeat (first | (with_reducible first | exact HB.out | apply zC | apply zA | apply zB | refine zE ?_ GE528.out) | exact HB.out)) hb)
           clear HO524
           clear BK528
           clear HB
           have HO524 := n0_
           have HO527 := n1_
           have BK528 := n2_
           have HB := n3_
           clear n0_ n1_ n2_ n3_
           clear hb ho19
           refine hK.out _ _ trivial (fun hHeld => ?_)
           clear hK K
           refine norm_ (a' := ?_) ?_ ?_
           rotate_left
           ·
            show Act.put _ (some 31) _ = _
            simp only [Act.put, List.setIfInBounds_toArray, List.set_cons_zero, List.set_cons_succ, i64_w, i32_w]
            rfl
           exact norm_ (by first | (simp only [putAll, Act.put, List.setIfInBounds_toArray, List.set_cons_zero, List.set_cons_succ]; done) | (simp only [putAll, Act.put, List.setIfInBounds_toArray, List.set_cons_zero, List.set_cons_succ]; rfl)) (hJ4_5_10_13 (v523, v526, gb528) _ ⟨(by (with_reducible repeat (first | apply Kd.R_alloc | apply Kd.R_drewN | apply Kd.R_drew)); exact Kd.R_mono HO524.out (fun _ hk => hk.2)), (by (with_reducible repeat (first | apply Kd.R_alloc | apply Kd.R_drewN | apply Kd.R_drew)); exact Kd.R_mono HO527.out (fun _ hk => hk.2)), (by (with_reducible repeat (first | refine zG ?_ _ | refine zI ?_ | refine zF ?_ _)); exact BK528.out), GW528.out, GE528.out, (by repeat (first | (with_reducible first | exact HB.out | apply zC | apply zA | apply zB | refine zE ?_ GE528.out) | exact HB.out))⟩)
         ·
          skip
          rintro ⟨v523, v526⟩ w18 ⟨h0_, h1_, h2_⟩
          have n0_ : Aside0 (Kd.R (Kd.int .u8) 5 w18 w.heap.size (fun k_ => some k_ ≠ (v526 : Value).ownBlock) v523 y522) := ⟨h0_⟩
          have n1_ : Aside0 (Kd.R (Kd.int .u8) 5 w18 w.heap.size (fun k_ => some k_ ≠ (v523 : Value).ownBlock) v526 y525) := ⟨h1_⟩
          have n2_ : Aside0 (Below w.heap.size w w18) := ⟨h2_⟩
          clear HB
          clear h0_ h1_ h2_
          have HO524 := n0_
          have HO527 := n1_
          have HB := n2_
          clear n0_ n1_ n2_
          have hHeld := trivial
          refine norm_ (a' := ?_) ?_ ?_
          rotate_left
          ·
           simp only [putAll, Act.put, List.setIfInBounds_toArray, List.set_cons_zero, List.set_cons_succ]
           rfl
          refine two_ (i := 11) (j := 13) (Ni := some 32) (Nj := some 9) #[true, true, true, true, true, true, true, true, true, true, true, true, false, false, false] #[true, true, true, true, true, true, true, true, true, true, true, false, false, true, false] rfl rfl rfl rfl (two_of HT_.out (by kernel_rfl)) (by decide) (by decide) (fun K hK => ?_) (fun K hK => ?_)
          ·
           skip
           have hcv19 := own_string (P := Tryd.prog) Tryd.underlying26 Tryd.underlying5 Tryd.underlying9 (Kd.own_of_R HO527.out)
           refine value_ (w1 := ?_) (v := ?_) (by rfl) rfl ?_ ?_
           rotate_left 2
           ·
            go_simp
            constructor
            · rfl
            · rfl
           clear hcv19
           refine hK.out _ _ trivial (fun hHeld => ?_)
           clear hK K
           refine norm_ (a' := ?_) ?_ ?_
           rotate_left
           ·
            show Act.put _ (some 32) _ = _
            simp only [Act.put, List.setIfInBounds_toArray, List.set_cons_zero, List.set_cons_succ, i64_w, i32_w]
            rfl
           refine pure_ (i := 12) (N := some 33) (v := ?_) (a' := ?_) #[true, true, true, true, true, true, true, true, true, true, true, true, true, false, false] rfl rfl (zP HT_.out (by kernel_rfl)) (fun _ _ _ h => h) (Or.inl ⟨by rfl, ?_⟩) ?_ ?_
           rotate_left
           ·
            intro w'
            go_simp
            with_reducible rfl
           rotate_left
           ·
            simp only [Act.put, List.setIfInBounds_toArray, List.set_cons_zero, List.set_cons_succ, i64_w, i32_w]
            rfl
           exact norm_ (by first | (simp only [putAll, Act.put, List.setIfInBounds_toArray, List.set_cons_zero, List.set_cons_succ]; done) | (simp only [putAll, Act.put, List.setIfInBounds_toArray, List.set_cons_zero, List.set_cons_succ]; rfl)) (hJ4_5_10_11 (v523, v526) _ ⟨(by (with_reducible repeat (first | apply Kd.R_alloc | apply Kd.R_drewN | apply Kd.R_drew)); exact HO524.out), (by (with_reducible repeat (first | apply Kd.R_alloc | apply Kd.R_drewN | apply Kd.R_drew)); exact HO527.out), (by repeat (first | (with_reducible first | exact HB.out | apply zC | apply zA | apply zB) | exact HB.out))⟩)
          ·
           skip
           refine box_step ?hg (N := 9) ?hd (cs := #[.slice none 0 0, .string (⟨#[]⟩ : ByteArray), .string (⟨#[]⟩ : ByteArray), .slice none 0 0]) (t := 25) ?hr ?_; (case hd => rfl); (case hg => rfl); (case hr => first | (go_simp; done) | (go_simp; rfl))
           intro gb528 hg w19 hbox hb
           have n0_ := Aside0.mk (Kd.R_below (by (with_reducible repeat (first | apply Kd.R_alloc | apply Kd.R_drewN | apply Kd.R_drew)); exact HO524.out) hb)
           have n1_ := Aside0.mk (Kd.R_below (by (with_reducible repeat (first | apply Kd.R_alloc | apply Kd.R_drewN | apply Kd.R_drew)); exact HO527.out) hb)
           have n2_ := Aside0.mk (zL (by repeat (first | (with_reducible first | exact HB.out | apply zC | apply zA | apply zB) | exact HB.out)) hb)
           have n3_ := Aside0.mk (hbox)
           have n4_ := Aside0.mk ((by rw [hg]; exact (zK (by repeat (first | (with_reducible first | exact HB.out | apply zC | apply zA | apply zB) | exact HB.out))) : w.heap.size ≤ gb528))
           have n5_ := Aside0.mk ((by rw [hg]; exact (zK (by repeat (first | (with_reducible first | exact HB.out | apply zC | apply zA | apply zB) | exact HB.out))) : w.heap.size ≤ gb528))
           clear HO524
           clear HO527
           clear HB
           have HO524 := n0_
           have HO527 := n1_
           have HB := n2_
           have BK528 := n3_
           have GW528 := n4_
           have GE528 := n5_
           clear n0_ n1_ n2_ n3_ n4_ n5_
           clear hb hbox hg
           refine hK.out _ _ trivial (fun hHeld => ?_)
           clear hK K
           refine norm_ (a' := ?_) ?_ ?_
           rotate_left
           ·
            show Act.put _ (some 9) _ = _
            simp only [Act.put, List.setIfInBounds_toArray, List.set_cons_zero, List.set_cons_succ, i64_w, i32_w]
            rfl
           exact norm_ (by first | (simp only [putAll, Act.put, List.setIfInBounds_toArray, List.set_cons_zero, List.set_cons_succ]; done) | (simp only [putAll, Act.put, List.setIfInBounds_toArray, List.set_cons_zero, List.set_cons_succ]; rfl)) (hJ4_5_10_13 (v523, v526, gb528) _ ⟨(by (with_reducible repeat (first | apply Kd.R_alloc | apply Kd.R_drewN | apply Kd.R_drew)); exact HO524.out), (by (with_reducible repeat (first | apply Kd.R_alloc | apply Kd.R_drewN | apply Kd.R_drew)); exact HO527.out), (by (with_reducible repeat (first | refine zG ?_ _ | refine zI ?_ | refine zF ?_ _)); exact BK528.out), GW528.out, GE528.out, (by repeat (first | (with_reducible first | exact HB.out | apply zC | apply zA | apply zB | refine zE ?_ GE528.out) | exact HB.out))⟩)
        ·
         skip
         rintro ⟨v523, v526, gb528⟩ w19 ⟨h0_, h1_, h2_, h3_, h4_, h5_⟩
         have n0_ : Aside0 (Kd.R (Kd.int .u8) 5 w19 w.heap.size (fun k_ => some k_ ≠ (v526 : Value).ownBlock) v523 y522) := ⟨h0_⟩
         have n1_ : Aside0 (Kd.R (Kd.int .u8) 5 w19 w.heap.size (fun k_ => some k_ ≠ (v523 : Value).ownBlock) v526 y525) := ⟨h1_⟩
         have n2_ : Aside0 (w19.heap[gb528]? = some (.cells #[.slice none 0 0, .string (⟨#[]⟩ : ByteArray), .string (⟨#[]⟩ : ByteArray), .slice none 0 0] 25 (0, 0))) := ⟨h2_⟩
         have n3_ : Aside0 (w.heap.size ≤ gb528) := ⟨h3_⟩
         have n4_ : Aside0 (w.heap.size ≤ gb528) := ⟨h4_⟩
         have n5_ : Aside0 (Below w.heap.size w w19) := ⟨h5_⟩
         clear HB
         clear h0_ h1_ h2_ h3_ h4_ h5_
         have HO524 := n0_
         have HO527 := n1_
         have BK528 := n2_
         have GW528 := n3_
         have GE528 := n4_
         have HB := n5_
         clear n0_ n1_ n2_ n3_ n4_ n5_
         have hHeld := trivial
         refine norm_ (a' := ?_) ?_ ?_
         rotate_left
         ·
          simp only [putAll, Act.put, List.setIfInBounds_toArray, List.set_cons_zero, List.set_cons_succ]
          rfl
         refine one_ (i := 5) (N := some 26) #[true, true, true, true, true, true, true, true, true, true, true, true, false, true, false] rfl rfl (one_of HT_.out (by kernel_rfl)) (by decide) (fun K hK => ?_)
         have hcv20 := own_string (P := Tryd.prog) Tryd.underlying26 Tryd.underlying5 Tryd.underlying9 (Kd.own_of_R HO524.out)
         refine value_ (w1 := ?_) (v := ?_) (by rfl) rfl ?_ ?_
         rotate_left 2
         ·
          go_simp
          constructor
          · rfl
          · rfl
         clear hcv20
         refine hK.out _ _ trivial (fun hHeld => ?_)
         clear hK K
         refine norm_ (a' := ?_) ?_ ?_
         rotate_left
         ·
          show Act.put _ (some 26) _ = _
          simp only [Act.put, List.setIfInBounds_toArray, List.set_cons_zero, List.set_cons_succ, i64_w, i32_w]
          rfl
         refine pure_ (i := 12) (N := some 33) (v := ?_) (a' := ?_) #[true, true, true, true, true, true, true, true, true, true, true, true, true, true, false] rfl rfl (zP HT_.out (by kernel_rfl)) (fun _ _ _ h => h) (Or.inl ⟨by rfl, ?_⟩) ?_ ?_
         rotate_left
         ·
          intro w'
          go_simp
          with_reducible rfl
         rotate_left
         ·
          simp only [Act.put, List.setIfInBounds_toArray, List.set_cons_zero, List.set_cons_succ, i64_w, i32_w]
          rfl
         exact norm_ (by first | (simp only [putAll, Act.put, List.setIfInBounds_toArray, List.set_cons_zero, List.set_cons_succ]; done) | (simp only [putAll, Act.put, List.setIfInBounds_toArray, List.set_cons_zero, List.set_cons_succ]; rfl)) (hJ4_5_10_11_13 (v523, v526, gb528) _ ⟨(by (with_reducible repeat (first | apply Kd.R_alloc | apply Kd.R_drewN | apply Kd.R_drew)); exact HO524.out), (by (with_reducible repeat (first | apply Kd.R_alloc | apply Kd.R_drewN | apply Kd.R_drew)); exact HO527.out), (by (with_reducible repeat (first | refine zG ?_ _ | refine zI ?_ | refine zF ?_ _)); exact BK528.out), GW528.out, GE528.out, (by repeat (first | (with_reducible first | exact HB.out | apply zC | apply zA | apply zB | refine zE ?_ GE528.out) | exact HB.out))⟩)
       ·
        skip
        rintro ⟨v523, v526, gb528⟩ w19 ⟨h0_, h1_, h2_, h3_, h4_, h5_⟩
        have n0_ : Aside0 (Kd.R (Kd.int .u8) 5 w19 w.heap.size (fun k_ => some k_ ≠ (v526 : Value).ownBlock) v523 y522) := ⟨h0_⟩
        have n1_ : Aside0 (Kd.R (Kd.int .u8) 5 w19 w.heap.size (fun k_ => some k_ ≠ (v523 : Value).ownBlock) v526 y525) := ⟨h1_⟩
        have n2_ : Aside0 (w19.heap[gb528]? = some (.cells #[.slice none 0 0, .string (⟨#[]⟩ : ByteArray), .string (⟨#[]⟩ : ByteArray), .slice none 0 0] 25 (0, 0))) := ⟨h2_⟩
        have n3_ : Aside0 (w.heap.size ≤ gb528) := ⟨h3_⟩
        have n4_ : Aside0 (w.heap.size ≤ gb528) := ⟨h4_⟩
        have n5_ : Aside0 (Below w.heap.size w w19) := ⟨h5_⟩
        clear HB
        clear h0_ h1_ h2_ h3_ h4_ h5_
        have HO524 := n0_
        have HO527 := n1_
        have BK528 := n2_
        have GW528 := n3_
        have GE528 := n4_
        have HB := n5_
        clear n0_ n1_ n2_ n3_ n4_ n5_
        have hHeld := trivial
        refine norm_ (a' := ?_) ?_ ?_
        rotate_left
        ·
         simp only [putAll, Act.put, List.setIfInBounds_toArray, List.set_cons_zero, List.set_cons_succ]
         rfl
        refine one_ (i := 11) (N := some 32) #[true, true, true, true, true, true, true, true, true, true, true, true, false, true, false] rfl rfl (one_of HT_.out (by kernel_rfl)) (by decide) (fun K hK => ?_)
        have hcv20 := own_string (P := Tryd.prog) Tryd.underlying26 Tryd.underlying5 Tryd.underlying9 (Kd.own_of_R HO527.out)
        refine value_ (w1 := ?_) (v := ?_) (by rfl) rfl ?_ ?_
        rotate_left 2
        ·
         go_simp
         constructor
         · rfl
         · rfl
        clear hcv20
        refine hK.out _ _ trivial (fun hHeld => ?_)
        clear hK K
        refine norm_ (a' := ?_) ?_ ?_
        rotate_left
        ·
         show Act.put _ (some 32) _ = _
         simp only [Act.put, List.setIfInBounds_toArray, List.set_cons_zero, List.set_cons_succ, i64_w, i32_w]
         rfl
        refine pure_ (i := 12) (N := some 33) (v := ?_) (a' := ?_) #[true, true, true, true, true, true, true, true, true, true, true, true, true, true, false] rfl rfl (zP HT_.out (by kernel_rfl)) (fun _ _ _ h => h) (Or.inl ⟨by rfl, ?_⟩) ?_ ?_
        rotate_left
        ·
         intro w'
         go_simp
         with_reducible rfl
        rotate_left
        ·
         simp only [Act.put, List.setIfInBounds_toArray, List.set_cons_zero, List.set_cons_succ, i64_w, i32_w]
         rfl
        exact norm_ (by first | (simp only [putAll, Act.put, List.setIfInBounds_toArray, List.set_cons_zero, List.set_cons_succ]; done) | (simp only [putAll, Act.put, List.setIfInBounds_toArray, List.set_cons_zero, List.set_cons_succ]; rfl)) (hJ4_5_10_11_13 (v523, v526, gb528) _ ⟨(by (with_reducible repeat (first | apply Kd.R_alloc | apply Kd.R_drewN | apply Kd.R_drew)); exact HO524.out), (by (with_reducible repeat (first | apply Kd.R_alloc | apply Kd.R_drewN | apply Kd.R_drew)); exact HO527.out), (by (with_reducible repeat (first | refine zG ?_ _ | refine zI ?_ | refine zF ?_ _)); exact BK528.out), GW528.out, GE528.out, (by repeat (first | (with_reducible first | exact HB.out | apply zC | apply zA | apply zB | refine zE ?_ GE528.out) | exact HB.out))⟩)
      ·
       skip
       rintro ⟨v523, v526⟩ w19 ⟨h0_, h1_, h2_⟩
       have n0_ : Aside0 (Kd.R (Kd.int .u8) 5 w19 w.heap.size (fun k_ => some k_ ≠ (v526 : Value).ownBlock) v523 y522) := ⟨h0_⟩
       have n1_ : Aside0 (Kd.R (Kd.int .u8) 5 w19 w.heap.size (fun k_ => some k_ ≠ (v523 : Value).ownBlock) v526 y525) := ⟨h1_⟩
       have n2_ : Aside0 (Below w.heap.size w w19) := ⟨h2_⟩
       clear HB
       clear h0_ h1_ h2_
       have HO524 := n0_
       have HO527 := n1_
       have HB := n2_
       clear n0_ n1_ n2_
       have hHeld := trivial
       refine norm_ (a' := ?_) ?_ ?_
       rotate_left
       ·
        simp only [putAll, Act.put, List.setIfInBounds_toArray, List.set_cons_zero, List.set_cons_succ]
        rfl
       refine one_ (i := 13) (N := some 9) #[true, true, true, true, true, true, true, true, true, true, true, true, true, true, false] rfl rfl (one_of HT_.out (by kernel_rfl)) (by decide) (fun K hK => ?_)
       refine box_step ?hg (N := 9) ?hd (cs := #[.slice none 0 0, .string (⟨#[]⟩ : ByteArray), .string (⟨#[]⟩ : ByteArray), .slice none 0 0]) (t := 25) ?hr ?_; (case hd => rfl); (case hg => rfl); (case hr => first | (go_simp; done) | (go_simp; rfl))
       intro gb528 hg w20 hbox hb
       have n0_ := Aside0.mk (Kd.R_below (by (with_reducible repeat (first | apply Kd.R_alloc | apply Kd.R_drewN | apply Kd.R_drew)); exact HO524.out) hb)
       have n1_ := Aside0.mk (Kd.R_below (by (with_reducible repeat (first | apply Kd.R_alloc | apply Kd.R_drewN | apply Kd.R_drew)); exact HO527.out) hb)
       have n2_ := Aside0.mk (zL (by repeat (first | (with_reducible first | exact HB.out | apply zC | apply zA | apply zB) | exact HB.out)) hb)
       have n3_ := Aside0.mk (hbox)
       have n4_ := Aside0.mk ((by rw [hg]; exact (zK (by repeat (first | (with_reducible first | exact HB.out | apply zC | apply zA | apply zB) | exact HB.out))) : w.heap.size ≤ gb528))
       have n5_ := Aside0.mk ((by rw [hg]; exact (zK (by repeat (first | (with_reducible first | exact HB.out | apply zC | apply zA | apply zB) | exact HB.out))) : w.heap.size ≤ gb528))
       clear HO524
       clear HO527
       clear HB
       have HO524 := n0_
       have HO527 := n1_
       have HB := n2_
       have BK528 := n3_
       have GW528 := n4_
       have GE528 := n5_
       clear n0_ n1_ n2_ n3_ n4_ n5_
       clear hb hbox hg
       refine hK.out _ _ trivial (fun hHeld => ?_)
       clear hK K
       refine norm_ (a' := ?_) ?_ ?_
       rotate_left
       ·
        show Act.put _ (some 9) _ = _
        simp only [Act.put, List.setIfInBounds_toArray, List.set_cons_zero, List.set_cons_succ, i64_w, i32_w]
        rfl
       exact norm_ (by first | (simp only [putAll, Act.put, List.setIfInBounds_toArray, List.set_cons_zero, List.set_cons_succ]; done) | (simp only [putAll, Act.put, List.setIfInBounds_toArray, List.set_cons_zero, List.set_cons_succ]; rfl)) (hJ4_5_10_11_13 (v523, v526, gb528) _ ⟨(by (with_reducible repeat (first | apply Kd.R_alloc | apply Kd.R_drewN | apply Kd.R_drew)); exact HO524.out), (by (with_reducible repeat (first | apply Kd.R_alloc | apply Kd.R_drewN | apply Kd.R_drew)); exact HO527.out), (by (with_reducible repeat (first | refine zG ?_ _ | refine zI ?_ | refine zF ?_ _)); exact BK528.out), GW528.out, GE528.out, (by repeat (first | (with_reducible first | exact HB.out | apply zC | apply zA | apply zB | refine zE ?_ GE528.out) | exact HB.out))⟩)
     rintro ⟨v523, v526, gb528⟩ w20 ⟨h0_, h1_, h2_, h3_, h4_, h5_⟩
     have n0_ : Aside0 (Kd.R (Kd.int .u8) 5 w20 w.heap.size (fun k_ => some k_ ≠ (v526 : Value).ownBlock) v523 y522) := ⟨h0_⟩
     have n1_ : Aside0 (Kd.R (Kd.int .u8) 5 w20 w.heap.size (fun k_ => some k_ ≠ (v523 : Value).ownBlock) v526 y525) := ⟨h1_⟩
     have n2_ : Aside0 (w20.heap[gb528]? = some (.cells #[.slice none 0 0, .string (⟨#[]⟩ : ByteArray), .string (⟨#[]⟩ : ByteArray), .slice none 0 0] 25 (0, 0))) := ⟨h2_⟩
     have n3_ : Aside0 (w.heap.size ≤ gb528) := ⟨h3_⟩
     have n4_ : Aside0 (w.heap.size ≤ gb528) := ⟨h4_⟩
     have n5_ : Aside0 (Below w.heap.size w w20) := ⟨h5_⟩
     clear HB
     clear h0_ h1_ h2_ h3_ h4_ h5_
     have HO524 := n0_
     have HO527 := n1_
     have BK528 := n2_
     have GW528 := n3_
     have GE528 := n4_
     have HB := n5_
     clear n0_ n1_ n2_ n3_ n4_ n5_
     have hHeld := trivial
     refine norm_ (a' := ?_) ?_ ?_
     rotate_left
     ·
      simp only [putAll, Act.put, List.setIfInBounds_toArray, List.set_cons_zero, List.set_cons_succ]
      rfl
     refine one_ (i := 14) (N := none) #[true, true, true, true, true, true, true, true, true, true, true, true, true, true, true] rfl rfl (one_of HT_.out (by kernel_rfl)) (by decide) (fun K hK => ?_)
     have hs21 : w20.cell? ⟨gb528, 0, none⟩ = some (.slice none 0 0) := (zD BK528.out 0).trans rfl
     have hfs21 := zH BK528.out 0
     have hs22 : w20.cell? ⟨gb528, 1, none⟩ = some (.string (⟨#[]⟩ : ByteArray)) := (zD BK528.out 1).trans rfl
     have hfs22 := zH BK528.out 1
     have hs23 : w20.cell? ⟨gb528, 2, none⟩ = some (.string (⟨#[]⟩ : ByteArray)) := (zD BK528.out 2).trans rfl
     have hfs23 := zH BK528.out 2
     have hs24 : w20.cell? ⟨gb528, 3, none⟩ = some (.slice none 0 0) := (zD BK528.out 3).trans rfl
     have hfs24 := zH BK528.out 3
     refine skip_ (w1 := ?_) (by rfl) rfl ?_ ?_
     rotate_left
     ·
      go_simp
      rfl
     refine hK.out _ _ trivial (fun hHeld => ?_)
     clear hK K
     refine done_ (done_of HT_.out (by kernel_rfl)) ?_
     try go_wp2
     go_loopg [10] k (fun kq v10 w' => ∃ (x10_1 : Int) (x529000_1 : List ByteArray) (u529000 : Value), v10 = .int .i64 x10_1 ∧ Aside0 (grapevinelaw12_PatchLimits.l0 kq t521 (wrap64 (Int.tmod a0 21)) x10_1 x529000_1 (strOfNums y522) (strOfNums y525) = some r) ∧ Aside0 (kq ≤ k) ∧ Aside0 (Kd.R Kd.string 35 w' w.heap.size (fun _ => True) u529000 x529000_1) ∧ Aside0 (w'.heap[gb528]? = some (.cells #[u529000, .string (strOfNums y522), .string (strOfNums y525), (.slice none 0 0)] 25 (0, 0))) ∧ Aside0 (Below w.heap.size w w'))
     case atStart => exact ⟨(0), (([] : List ByteArray)), (.slice none 0 0), (by first | rfl | (simp; done) | (simp [*]; done)), H', ⟨Nat.le_refl _⟩, ⟨by first | exact Kd.R_nil _ _ _ _ _ | exact Kd.N_nil _ _ _ _ _ | exact Kd.V_nil _ _ _ _ _ | exact Kd.Q_nil _ _ _ _ _ | exact Kd.S_nil _ _ _ _ _⟩, ⟨by (with_reducible repeat (first | refine zG ?_ _ | refine zI ?_ | refine zF ?_ _)); refine blk_put (cs := #[.slice none 0 0, .string (strOfNums y522), .string (strOfNums y525), .slice none 0 0]) ?_ 3 _ rfl; (with_reducible repeat (first | refine zG ?_ _ | refine zI ?_ | refine zF ?_ _)); refine blk_put (cs := #[.slice none 0 0, .string (strOfNums y522), .string (⟨#[]⟩ : ByteArray), .slice none 0 0]) ?_ 2 _ rfl; (with_reducible repeat (first | refine zG ?_ _ | refine zI ?_ | refine zF ?_ _)); refine blk_put (cs := #[.slice none 0 0, .string (⟨#[]⟩ : ByteArray), .string (⟨#[]⟩ : ByteArray), .slice none 0 0]) ?_ 1 _ rfl; (with_reducible repeat (first | refine zG ?_ _ | refine zI ?_ | refine zF ?_ _)); refine blk_put (cs := #[.slice none 0 0, .string (⟨#[]⟩ : ByteArray), .string (⟨#[]⟩ : ByteArray), .slice none 0 0]) ?_ 0 _ rfl; (with_reducible repeat (first | refine zG ?_ _ | refine zI ?_ | refine zF ?_ _)); exact BK528.out⟩, ⟨by repeat (first | (with_reducible first | exact HB.out | apply zC | apply zA | apply zB | refine zE ?_ GE528.out) | exact HB.out)⟩⟩
     case round =>
      clear H'
      try clear hcv1
      try clear p2
      try clear hcv2
      try clear p6
      try clear hcv18
      try clear hcv19
      try clear hcv20
      obtain ⟨x10_1, x529000_1, u529000, rfl, HA, HK1, HO_529000, BK528, HB⟩ := hrel
      cases gk with
      | zero => exact absurd HA.out (by simp [grapevinelaw12_PatchLimits.l0])
      | succ k1 =>
       have H := HA.out
       clear HA
       simp only [grapevinelaw12_PatchLimits.l0] at H
       by_cases c25 : x10_1 < (wrap64 (Int.tmod a0 21))
       ·
        rw [if_pos c25] at H
        have c25b0 : decide (x10_1 < (wrap64 (Int.tmod a0 21))) = true := decide_eq_true c25
        clear c25
        by_cases c26 : 32 ≤ 281474976710656
        ·
         rw [if_pos c26] at H
         have c26b0 := eq_true c26
         have c26b1 : decide (32 ≤ 281474976710656) = true := decide_eq_true c26
         clear c26
         obtain ⟨y529, hy529⟩ : ∃ y_ : List Int, y_ = (List.replicate 32 0) := ⟨_, rfl⟩
         replace H : (if 31 < (y529.length : Int) then (if x529000_1.length < 8796093022208 then (grapevinelaw12_PatchLimits.l0 k1 t521 (wrap64 (Int.tmod a0 21)) (wrap64 (x10_1 + 1)) (x529000_1 ++ [strOfNums (y529.set (31 : Int).toNat ((x10_1) % 256))]) (strOfNums y522) (strOfNums y525)) else (none)) else (none)) = some r := by first | (rw [hy529]; with_reducible exact H) | (have H2_ := (Option.bind_some _ _).symm.trans H; rw [hy529]; with_reducible exact H2_) | (have H2_ := (Option.bind_some _ _).symm.trans H; with_reducible exact H2_) | with_reducible exact H | (rw [hy529]; exact H) | exact H
         have Ny529 := Aside0.mk hy529
         clear hy529
         by_cases c27 : 31 < (y529.length : Int)
         ·
          rw [if_pos c27] at H
          have c27b0 : decide (31 < (y529.length : Int)) = true := decide_eq_true c27
          have c27b1 : decide (31 < y529.length) = true := decide_eq_true (by omega)
          clear c27
          obtain ⟨y532, hy532⟩ : ∃ y_ : List Int, y_ = (y529.set (31 : Int).toNat ((x10_1) % 256)) := ⟨_, rfl⟩
          replace H : (if x529000_1.length < 8796093022208 then (grapevinelaw12_PatchLimits.l0 k1 t521 (wrap64 (Int.tmod a0 21)) (wrap64 (x10_1 + 1)) (x529000_1 ++ [strOfNums y532]) (strOfNums y522) (strOfNums y525)) else (none)) = some r := by first | (rw [hy532]; with_reducible exact H) | (have H2_ := (Option.bind_some _ _).symm.trans H; rw [hy532]; with_reducible exact H2_) | (have H2_ := (Option.bind_some _ _).symm.trans H; with_reducible exact H2_) | with_reducible exact H | (rw [hy532]; exact H) | exact H
          have Ny532 := Aside0.mk hy532
          clear hy532
          by_cases c29 : x529000_1.length < 8796093022208
          ·
           rw [if_pos c29] at H
           have LMc29 := Aside0.mk c29
           clear c29
           obtain ⟨y533, hy533⟩ : ∃ y_ : List ByteArray, y_ = (x529000_1 ++ [strOfNums y532]) := ⟨_, rfl⟩
           replace H : (grapevinelaw12_PatchLimits.l0 k1 t521 (wrap64 (Int.tmod a0 21)) (wrap64 (x10_1 + 1)) y533 (strOfNums y522) (strOfNums y525)) = some r := by first | (rw [hy533]; with_reducible exact H) | (have H2_ := (Option.bind_some _ _).symm.trans H; rw [hy533]; with_reducible exact H2_) | (have H2_ := (Option.bind_some _ _).symm.trans H; with_reducible exact H2_) | with_reducible exact H | (rw [hy533]; exact H) | exact H
           have Ny533 := Aside0.mk hy533
           clear hy533
           have H' := Aside0.mk H
           clear H
           go_wp2_with (first | ((with_reducible refine gate_dst (N := 39) rfl ?_); (try (refine gate_guard (by rfl) ?_; dsimp only)); refine Kd.R_make (Kd.int .u8) _ 5 rfl (N := 39) rfl 26 _ _ rfl 32 rfl rfl Tryd.underlying26 (.int .u8 0) 1 info5 rfl (by decide) (by omega) 0 (ok := fun _ => True) (okp := fun _ => True) rfl (fun _ hk => hk) trivial (by omega) (by omega) (Below.refl _ _) (Nat.le_refl _) ?_; intro v530 w30 ho31 hb hg_ hnew_; clear hg_ hnew_; (first | rw [← Ny529.out] at ho31 | (simp only [Int.reduceToNat] at ho31; rw [← Ny529.out] at ho31)); have n0_ := Aside0.mk (Kd.R_below (by (with_reducible repeat (first | apply Kd.R_alloc | apply Kd.R_drewN | apply Kd.R_drew)); exact HO_529000.out) hb); have n1_ := Aside0.mk (Kd.R_lower ho31 (zK (by repeat (first | (with_reducible first | exact HB.out | apply zC | apply zA | apply zB | refine zE ?_ GE528.out) | exact HB.out)))); have n2_ := Aside0.mk (zM (g := gb528) (o := .cells #[u529000, .string (strOfNums y522), .string (strOfNums y525), .slice none 0 0] 25 (0, 0)) (by (with_reducible repeat (first | refine zG ?_ _ | refine zI ?_ | refine zF ?_ _)); exact BK528.out) hb); have n3_ := Aside0.mk (zL (by repeat (first | (with_reducible first | exact HB.out | apply zC | apply zA | apply zB | refine zE ?_ GE528.out) | exact HB.out)) hb); clear HO_529000; clear BK528; clear HB; have HO_529000 := n0_; have HO531 := n1_; have BK528 := n2_; have HB := n3_; clear n0_ n1_ n2_ n3_; clear hb ho31; have p28 : 0 ≤ (31 : Int) := (by omega); have q28 : (31 : Int) < ((y529.length : Int) : Int) := of_decide_eq_true (by first | (with_reducible assumption) | assumption); have qi28 : (31 < y529.length) = True := eq_true (by omega); obtain ⟨go28, co28, eo28, gb28, gl28, cl28, HG28⟩ := Kd.R_form HO531.out (by omega); (first | cases eo28 | (injection eo28 with ea_ en_ ec_; (first | subst ea_ | (injection ea_ with ea_; subst ea_)); subst ec_; clear en_)); have GB28 := Aside0.mk gb28; have GG28 := Aside0.mk HG28; clear gb28 gl28 HG28; obtain ⟨hx28_0, hf28_0⟩ := Kd.R_celln 0 HO531.out (31 : Int) p28 q28; (try rw [show ((31 : Int)).toNat = 31 from rfl] at hx28_0); (try simp only [Nat.reduceMul, Nat.zero_mul, Nat.zero_add, Nat.reduceAdd] at hx28_0); (try rw [show ((31 : Int)).toNat = 31 from rfl] at hf28_0); (try simp only [Nat.reduceMul, Nat.zero_mul, Nat.zero_add, Nat.reduceAdd] at hf28_0); replace p28 := eq_true p28; replace q28 := eq_true q28; obtain ⟨hy32_, hz32_⟩ := Kd.R_celln 0 HO531.out (31 : Int) (by omega) (of_decide_eq_true (by first | (with_reducible assumption) | assumption)); (try simp only [Int.reduceToNat, Int.toNat_zero, Int.toNat_ofNat, Nat.reduceMul, Nat.zero_mul, Nat.zero_add] at hy32_ hz32_); (try rw [show ((31 : Int)).toNat = 31 from rfl] at hy32_); (try rw [show ((31 : Int)).toNat = 31 from rfl] at hz32_); have HP32 := Kd.R_putg HO531.out (31 : Int) ((x10_1) % 256)) | ((with_reducible refine gate_store (t := 5) (p := 43) rfl ?_); refine store_event (t := 5) (p := 43) (v := ?vo_w33) (w1 := (w30.setCell ⟨go28, (31 : Int).toNat, none⟩ (.int .u8 ((x10_1) % 256)))) ?hg ?ho ?hn ?hr ?_; (case ho => rfl); (case hg => rfl); (case hn => rfl); (case hr => first | (go_simp; done) | (go_simp; rfl)); intro w33 hw; have hg : w30.grownBy w33 (some go28) := (by rw [hw]; exact HP32.2); have hp_ : Kd.R (Kd.int .u8) 5 w33 w.heap.size (fun _ => True) (.slice (some ⟨go28, 0, none⟩) y529.length co28) y532 := (by rw [hw, Ny532.out]; exact HP32.1); clear HP32; have n0_ := Aside0.mk (Kd.R_over' (v := (.slice (some ⟨go28, 0, none⟩) y529.length co28)) (by (with_reducible repeat (first | apply Kd.R_alloc | apply Kd.R_drewN | apply Kd.R_drew)); exact HO_529000.out) (Kd.R_typed HO531.out) (by decide) hg); have n1_ := Aside0.mk (blk_grown (g := gb528) (o := .cells #[u529000, .string (strOfNums y522), .string (strOfNums y525), .slice none 0 0] 25 (0, 0)) (by (with_reducible repeat (first | refine zG ?_ _ | refine zI ?_ | refine zF ?_ _)); exact BK528.out) hg (Kd.R_ne HO531.out BK528.out (by decide))); have n2_ := Aside0.mk (hp_); have n3_ := Aside0.mk ((by rw [hw]; exact zE (HB.out) GB28.out : Below w.heap.size w w33)); clear HO_529000; clear BK528; clear HO531; clear HB; have HO_529000 := n0_; have BK528 := n1_; have HO531 := n2_; have HB := n3_; clear n0_ n1_ n2_ n3_; clear hg hw hp_; have hcz34_0 : w33.cell? ⟨gb528, 0, none⟩ = some (u529000) := (zD BK528.out 0).trans rfl; have hcz34_1 : w33.cell? ⟨gb528, 1, none⟩ = some (.string (strOfNums y522)) := (zD BK528.out 1).trans rfl; have hcz34_2 : w33.cell? ⟨gb528, 2, none⟩ = some (.string (strOfNums y525)) := (zD BK528.out 2).trans rfl; have hcz34_3 : w33.cell? ⟨gb528, 3, none⟩ = some (.slice none 0 0) := (zD BK528.out 3).trans rfl; have hfz34_0 := zH BK528.out 0; have hfz34_1 := zH BK528.out 1; have hfz34_2 := zH BK528.out 2; have hfz34_3 := zH BK528.out 3; have hcv35 := own_string (P := Tryd.prog) Tryd.underlying26 Tryd.underlying5 Tryd.underlying35 (Kd.own_of_R HO531.out)) | ((with_reducible refine gate_builtin (b := .append) (xs := #[.tmp 45, .tmp 48]) rfl ?_); (try (refine gate_guard (by rfl) ?_; dsimp only)); at_builtin; refine Kd.R_append Kd.string (w0 := w) w.heap.size rfl (.tmp 45) (.tmp 48) 22 35 (.string ⟨#[]⟩) 16 rfl Tryd.underlying22 info35 rfl (by decide) (by omega) u529000 x529000_1 (strOfNums y532) [.string (strOfNums y532)] (fun _ => True) (fun _ => False) rfl rfl ?aP (fun _ hk => hk.elim) ?aF ?aO ?aB ?aS ?aL ?_; (case aP => exact rfl); (case aB => exact (by repeat (first | (with_reducible first | exact HB.out | apply zC | apply zA | apply zB | refine zE ?_ GE528.out) | exact HB.out))); (case aF => exact (fun _ _ => trivial)); (case aO => exact (by (with_reducible repeat (first | apply Kd.R_alloc | apply Kd.R_drewN | apply Kd.R_drew)); exact HO_529000.out)); (case aS => exact (zK (by repeat (first | (with_reducible first | exact HB.out | apply zC | apply zA | apply zB | refine zE ?_ GE528.out) | exact HB.out)))); (case aL => have := LMc29.out; omega); intro v534 w36 ho hb hg hat; rw [← Ny533.out] at ho; have n0_ := Aside0.mk (blk_grown (g := gb528) (o := .cells #[u529000, .string (strOfNums y522), .string (strOfNums y525), .slice none 0 0] 25 (0, 0)) (by (with_reducible repeat (first | refine zG ?_ _ | refine zI ?_ | refine zF ?_ _)); exact BK528.out) hg (Kd.R_ne HO_529000.out BK528.out (by decide))); have n1_ := Aside0.mk (Kd.R_over' (by (with_reducible repeat (first | apply Kd.R_alloc | apply Kd.R_drewN | apply Kd.R_drew)); exact HO531.out) (Kd.R_typed (by (with_reducible repeat (first | apply Kd.R_alloc | apply Kd.R_drewN | apply Kd.R_drew)); exact HO_529000.out)) (by decide) hg); have n2_ := Aside0.mk (hb); have n3_ := Aside0.mk (ho); clear BK528; clear HO531; clear HB; clear HO_529000; have BK528 := n0_; have HO531 := n1_; have HB := n2_; have HO535 := n3_; clear n0_ n1_ n2_ n3_; clear ho hb hg hat; obtain ⟨Ao37, co37, eo37⟩ := Kd.R_slice HO535.out; subst eo37; have hcz38_0 : w36.cell? ⟨gb528, 0, none⟩ = some (u529000) := (zD BK528.out 0).trans rfl; have hcz38_1 : w36.cell? ⟨gb528, 1, none⟩ = some (.string (strOfNums y522)) := (zD BK528.out 1).trans rfl; have hcz38_2 : w36.cell? ⟨gb528, 2, none⟩ = some (.string (strOfNums y525)) := (zD BK528.out 2).trans rfl; have hcz38_3 : w36.cell? ⟨gb528, 3, none⟩ = some (.slice none 0 0) := (zD BK528.out 3).trans rfl; have hfz38_0 := zH BK528.out 0; have hfz38_1 := zH BK528.out 1; have hfz38_2 := zH BK528.out 2; have hfz38_3 := zH BK528.out 3))
           go_roundg k1
           case measure => have := HK1.out; omega
           case rel => exact ⟨(wrap64 (x10_1 + 1)), (y533), (.slice Ao37 y533.length co37), (by first | rfl | (simp; done) | (simp [*]; done)), H', ⟨by have := HK1.out; omega⟩, ⟨by (with_reducible repeat (first | apply Kd.R_alloc | apply Kd.R_drewN | apply Kd.R_drew)); exact Kd.R_mono (Kd.R_far (p := ⟨gb528, 0, none⟩) (Kd.R_types HO535.out BK528.out (by decide)) (fun _ hk => hk.2) (.slice Ao37 y533.length co37)) (fun _ hk => trivial)⟩, ⟨by (with_reducible repeat (first | refine zG ?_ _ | refine zI ?_ | refine zF ?_ _)); refine blk_put (cs := #[u529000, .string (strOfNums y522), .string (strOfNums y525), .slice none 0 0]) ?_ 0 _ rfl; (with_reducible repeat (first | refine zG ?_ _ | refine zI ?_ | refine zF ?_ _)); exact BK528.out⟩, ⟨by repeat (first | (with_reducible first | exact HB.out | apply zC | apply zA | apply zB | refine zE ?_ GE528.out) | exact HB.out)⟩⟩
          ·
           rw [if_neg c29] at H
           exact absurd H (by simp)
         ·
          rw [if_neg c27] at H
          exact absurd H (by simp)
        ·
         rw [if_neg c26] at H
         exact absurd H (by simp)
       ·
        rw [if_neg c25] at H
        have c25b0 : decide (x10_1 < (wrap64 (Int.tmod a0 21))) = false := decide_eq_false c25
        clear c25
        have HC39 := Aside0.mk H
        clear H
        go_upto_region 10 with (fail)
        go_cut [12] (fun v12 wc => ∃ (kq : Nat) (x12_38 : Bool), v12 = .bool x12_38 ∧ Aside0 (grapevinelaw12_PatchLimits.j1 kq t521 x12_38 x529000_1 (strOfNums y522) (strOfNums y525) = some r) ∧ Aside0 (kq ≤ k1) ∧ Aside0 (Kd.R Kd.string 35 wc w.heap.size (fun _ => True) u529000 x529000_1) ∧ Aside0 (wc.heap[gb528]? = some (.cells #[u529000, .string (strOfNums y522), .string (strOfNums y525), (.slice none 0 0)] 25 (0, 0))) ∧ Aside0 (Below w.heap.size w wc))
        case first =>
         have H := HC39.out
         clear HC39
         by_cases c40 : (wrap64 (Int.tmod a0 21)) ≤ 16
         ·
          rw [if_pos c40] at H
          have c40b0 : decide ((wrap64 (Int.tmod a0 21)) ≤ 16) = true := decide_eq_true c40
          clear c40
          (first | rw [c40b0] | (simp only [i64_w, i32_w]; rw [c40b0]) | skip)
          by_cases c41 : ((strOfNums y522).size : Int) ≤ 100
          ·
           rw [if_pos c41] at H
           have c41b0 : decide (((strOfNums y522).size : Int) ≤ 100) = true := decide_eq_true c41
           have c41b1 : decide ((strOfNums y522).size ≤ 100) = true := decide_eq_true (by omega)
           clear c41
           have H' := Aside0.mk H
           clear H
           have hcz42_0 : wr.cell? ⟨gb528, 0, none⟩ = some (u529000) := (zD BK528.out 0).trans rfl
           have hcz42_1 : wr.cell? ⟨gb528, 1, none⟩ = some (.string (strOfNums y522)) := (zD BK528.out 1).trans rfl
           have hcz42_2 : wr.cell? ⟨gb528, 2, none⟩ = some (.string (strOfNums y525)) := (zD BK528.out 2).trans rfl
           have hcz42_3 : wr.cell? ⟨gb528, 3, none⟩ = some (.slice none 0 0) := (zD BK528.out 3).trans rfl
           have hfz42_0 := zH BK528.out 0
           have hfz42_1 := zH BK528.out 1
           have hfz42_2 := zH BK528.out 2
           have hfz42_3 := zH BK528.out 3
           go_wp2
           go_meet
           case rel => exact ⟨_, (decide (((strOfNums y525).size : Int) ≤ 1000)), (by first | rfl | (simp; done) | (simp [*]; done)), H', ⟨by have := HK1.out; first | omega | exact Nat.le_refl _⟩, ⟨by (with_reducible repeat (first | apply Kd.R_alloc | apply Kd.R_drewN | apply Kd.R_drew)); exact HO_529000.out⟩, ⟨by (with_reducible repeat (first | refine zG ?_ _ | refine zI ?_ | refine zF ?_ _)); exact BK528.out⟩, ⟨by repeat (first | (with_reducible first | exact HB.out | apply zC | apply zA | apply zB | refine zE ?_ GE528.out) | exact HB.out)⟩⟩
          ·
           rw [if_neg c41] at H
           have c41b0 : decide (((strOfNums y522).size : Int) ≤ 100) = false := decide_eq_false c41
           have c41b1 : decide ((strOfNums y522).size ≤ 100) = false := decide_eq_false (by omega)
           clear c41
           have H' := Aside0.mk H
           clear H
           have hcz43_0 : wr.cell? ⟨gb528, 0, none⟩ = some (u529000) := (zD BK528.out 0).trans rfl
           have hcz43_1 : wr.cell? ⟨gb528, 1, none⟩ = some (.string (strOfNums y522)) := (zD BK528.out 1).trans rfl
           have hcz43_2 : wr.cell? ⟨gb528, 2, none⟩ = some (.string (strOfNums y525)) := (zD BK528.out 2).trans rfl
           have hcz43_3 : wr.cell? ⟨gb528, 3, none⟩ = some (.slice none 0 0) := (zD BK528.out 3).trans rfl
           have hfz43_0 := zH BK528.out 0
           have hfz43_1 := zH BK528.out 1
           have hfz43_2 := zH BK528.out 2
           have hfz43_3 := zH BK528.out 3
           go_wp2
           go_meet
           case rel => exact ⟨_, (false), (by first | rfl | (simp; done) | (simp [*]; done)), H', ⟨by have := HK1.out; first | omega | exact Nat.le_refl _⟩, ⟨by (with_reducible repeat (first | apply Kd.R_alloc | apply Kd.R_drewN | apply Kd.R_drew)); exact HO_529000.out⟩, ⟨by (with_reducible repeat (first | refine zG ?_ _ | refine zI ?_ | refine zF ?_ _)); exact BK528.out⟩, ⟨by repeat (first | (with_reducible first | exact HB.out | apply zC | apply zA | apply zB | refine zE ?_ GE528.out) | exact HB.out)⟩⟩
         ·
          rw [if_neg c40] at H
          have c40b0 : decide ((wrap64 (Int.tmod a0 21)) ≤ 16) = false := decide_eq_false c40
          clear c40
          (first | rw [c40b0] | (simp only [i64_w, i32_w]; rw [c40b0]) | skip)
          have H' := Aside0.mk H
          clear H
          go_wp2
          go_meet
          case rel => exact ⟨_, (false), (by first | rfl | (simp; done) | (simp [*]; done)), H', ⟨by have := HK1.out; first | omega | exact Nat.le_refl _⟩, ⟨by (with_reducible repeat (first | apply Kd.R_alloc | apply Kd.R_drewN | apply Kd.R_drew)); exact HO_529000.out⟩, ⟨by (with_reducible repeat (first | refine zG ?_ _ | refine zI ?_ | refine zF ?_ _)); exact BK528.out⟩, ⟨by repeat (first | (with_reducible first | exact HB.out | apply zC | apply zA | apply zB | refine zE ?_ GE528.out) | exact HB.out)⟩⟩
        case rest =>
         clear HC39
         try clear hcv1
         try clear c2
         try clear p2
         try clear q2
         try clear hx2
         try clear hcv2
         try clear qi2
         try clear hcv3
         try clear c4
         try clear p6
         try clear hcv18
         try clear hcv19
         try clear hcv20
         try clear c25
         try clear c25b0
         try clear c26
         try clear c26b0
         try clear c26b1
         try clear c27
         try clear c27b0
         try clear c27b1
         try clear p28
         try clear q28
         try clear hx28
         try clear qi28
         try clear hf28
         try clear c29
         try clear hcv35
         try clear c40
         try clear c40b0
         try clear c41
         try clear c41b0
         try clear c41b1
         try clear hcz34_0
         try clear hcz34_1
         try clear hcz34_2
         try clear hcz34_3
         try clear hcz38_0
         try clear hcz38_1
         try clear hcz38_2
         try clear hcz38_3
         try clear hcz42_0
         try clear hcz42_1
         try clear hcz42_2
         try clear hcz42_3
         try clear hcz43_0
         try clear hcz43_1
         try clear hcz43_2
         try clear hcz43_3
         try clear hfz34_0
         try clear hfz34_1
         try clear hfz34_2
         try clear hfz34_3
         try clear hfz38_0
         try clear hfz38_1
         try clear hfz38_2
         try clear hfz38_3
         try clear hfz42_0
         try clear hfz42_1
         try clear hfz42_2
         try clear hfz42_3
         try clear hfz43_0
         try clear hfz43_1
         try clear hfz43_2
         try clear hfz43_3
         try clear hx28_0
         try clear p2
         try clear p28
         try clear p6
         try clear q28
         obtain ⟨kq, x12_38, rfl, HA, HJ38, HO_529000, BK528, HB⟩ := hcut
         cases kq with
         | zero => exact absurd HA.out (by simp [grapevinelaw12_PatchLimits.j1])
         | succ kj38 =>
          have H := HA.out
          clear HA
          simp only [grapevinelaw12_PatchLimits.j1] at H
          replace H := Option.bind_eq_some_iff.mp H
          obtain ⟨t536, A440, H⟩ := H
          replace H : ((patch_Decode.f t536).bind fun bt539 => (if x12_38 = true then (if t521 = true then ((patch_Right.f kj38 x529000_1 (strOfNums y522) (strOfNums y525) ([] : List (S48))).bind fun t549 => (if (t549 == x12_38) = true then (if bt539.2.2.2.2 = 0 then ((grapevineref12_Same.f kj38 x529000_1 (strOfNums y522) (strOfNums y525) ([] : List (S48)) bt539.1 bt539.2.1 bt539.2.2.1 bt539.2.2.2.1).bind fun t550 => (some t550)) else (some false)) else (some false))) else (some false)) else (if t521 = true then ((patch_Right.f kj38 x529000_1 (strOfNums y522) (strOfNums y525) ([] : List (S48))).bind fun t551 => (if (t551 == x12_38) = true then (if bt539.2.2.2.2 = 4 then (some true) else (some false)) else (some false))) else (some false)))) = some r := H
          have A44 := Aside0.mk A440
          clear A440
          replace H := Option.bind_eq_some_iff.mp H
          obtain ⟨⟨t539, t542, t543, t544, t547⟩, A450, H⟩ := H
          replace H : (if x12_38 = true then (if t521 = true then ((patch_Right.f kj38 x529000_1 (strOfNums y522) (strOfNums y525) ([] : List (S48))).bind fun t549 => (if (t549 == x12_38) = true then (if t547 = 0 then ((grapevineref12_Same.f kj38 x529000_1 (strOfNums y522) (strOfNums y525) ([] : List (S48)) t539 t542 t543 t544).bind fun t550 => (some t550)) else (some false)) else (some false))) else (some false)) else (if t521 = true then ((patch_Right.f kj38 x529000_1 (strOfNums y522) (strOfNums y525) ([] : List (S48))).bind fun t551 => (if (t551 == x12_38) = true then (if t547 = 4 then (some true) else (some false)) else (some false))) else (some false))) = some r := H
          have A45 := Aside0.mk A450
          clear A450
          by_cases c46 : x12_38 = true
          ·
           subst c46
           have H1 : (if t521 = true then ((patch_Right.f kj38 x529000_1 (strOfNums y522) (strOfNums y525) ([] : List (S48))).bind fun t549 => (if (t549 == true) = true then (if t547 = 0 then ((grapevineref12_Same.f kj38 x529000_1 (strOfNums y522) (strOfNums y525) ([] : List (S48)) t539 t542 t543 t544).bind fun t550 => (some t550)) else (some false)) else (some false))) else (some false)) = some r := by rw [if_pos rfl] at H; exact H
           clear H
           have H := H1
           clear H1
           by_cases c47 : t521 = true
           ·
            subst c47
            have H1 : ((patch_Right.f kj38 x529000_1 (strOfNums y522) (strOfNums y525) ([] : List (S48))).bind fun t549 => (if (t549 == true) = true then (if t547 = 0 then ((grapevineref12_Same.f kj38 x529000_1 (strOfNums y522) (strOfNums y525) ([] : List (S48)) t539 t542 t543 t544).bind fun t550 => (some t550)) else (some false)) else (some false))) = some r := by rw [if_pos rfl] at H; exact H
            clear H
            have H := H1
            clear H1
            replace H := Option.bind_eq_some_iff.mp H
            obtain ⟨t549, A480, H⟩ := H
            replace H : (if (t549 == true) = true then (if t547 = 0 then ((grapevineref12_Same.f kj38 x529000_1 (strOfNums y522) (strOfNums y525) ([] : List (S48)) t539 t542 t543 t544).bind fun t550 => (some t550)) else (some false)) else (some false)) = some r := H
            have A48 := Aside0.mk A480
            clear A480
            by_cases c49 : (t549 == true) = true
            ·
             rw [if_pos c49] at H
             have c49b0 : (t549 == true) = true := c49
             (try (have c49b1 : decide (t549 = true) = true := by simpa using c49))
             (try (have c49b2 : (t549 == true) = true := by simpa using c49))
             clear c49
             by_cases c50 : t547 = 0
             ·
              rw [if_pos c50] at H
              have c50b0 : (t547 == 0) = true := beq_iff_eq.mpr c50
              have c50b1 : (t547 != 0) = false := bne_eq_false_iff_eq.mpr c50
              clear c50
              replace H := Option.bind_eq_some_iff.mp H
              obtain ⟨t550, A510, H⟩ := H
              replace H : (some t550) = some r := H
              have A51 := Aside0.mk A510
              clear A510
              obtain rfl := Option.some.inj H
              clear hrt
              have hcz52_0 : wc.cell? ⟨gb528, 0, none⟩ = some (u529000) := (zD BK528.out 0).trans rfl
              have hcz52_1 : wc.cell? ⟨gb528, 1, none⟩ = some (.string (strOfNums y522)) := (zD BK528.out 1).trans rfl
              have hcz52_2 : wc.cell? ⟨gb528, 2, none⟩ = some (.string (strOfNums y525)) := (zD BK528.out 2).trans rfl
              have hcz52_3 : wc.cell? ⟨gb528, 3, none⟩ = some (.slice none 0 0) := (zD BK528.out 3).trans rfl
              have hfz52_0 := zH BK528.out 0
              have hfz52_1 := zH BK528.out 1
              have hfz52_2 := zH BK528.out 2
              have hfz52_3 := zH BK528.out 3
              obtain ⟨Ao53, co53, eo53⟩ := Kd.R_slice HO_529000.out
              subst eo53
              go_wp2_with (first | ((with_reducible refine gate_callee (f := 20) rfl ?_); refine goesL_ (some 66) rfl rfl Tryd.func20 (by kernel_rfl) rfl #[.agg #[.slice Ao53 x529000_1.length co53, .string (strOfNums y522), .string (strOfNums y525), .slice none 0 0]] rfl (by (try simp only [List.map_toArray, List.map_cons, List.map_nil]); first | done | rfl | (simp only [List.length_drop, List.length_take]; rfl)) ?_; (refine (grapevineref12_Form.calls kj38 _ _ x529000_1 (strOfNums y522) (strOfNums y525) _ _ ([] : List (S48)) t536 _ ?side1 ?side2 ?side3 ?side4 A44.out).mono ?_); (case side1 => repeat (first | exact (Kd.R_reads' HO_529000.out).2.2 | (with_reducible refine Kd.C_alloc ?_ _) | (with_reducible refine Kd.C_drewN ?_ _) | (with_reducible refine Kd.C_drew ?_))); (case side2 => exact (Kd.R_reads' HO_529000.out).2.1); (case side3 => exact Kd.C_nil _ _); (case side4 => exact Nat.le_refl _); rintro e w54 ⟨v537, rfl, ho0, hb⟩; refine ⟨_, rfl, ?_⟩; have n0_ := Aside0.mk (Kd.R_below (by (with_reducible repeat (first | apply Kd.R_alloc | apply Kd.R_drewN | apply Kd.R_drew)); exact HO_529000.out) hb); have n1_ := Aside0.mk (Kd.R_lower ho0 (zK (by repeat (first | (with_reducible first | exact HB.out | apply zC | apply zA | apply zB | refine zE ?_ GE528.out) | exact HB.out)))); have n2_ := Aside0.mk (zM (g := gb528) (o := .cells #[.slice Ao53 x529000_1.length co53, .string (strOfNums y522), .string (strOfNums y525), .slice none 0 0] 25 (0, 0)) (by (with_reducible repeat (first | refine zG ?_ _ | refine zI ?_ | refine zF ?_ _)); exact BK528.out) hb); have n3_ := Aside0.mk (zL (by repeat (first | (with_reducible first | exact HB.out | apply zC | apply zA | apply zB | refine zE ?_ GE528.out) | exact HB.out)) hb); clear HO_529000; clear BK528; clear HB; have HO_529000 := n0_; have HO538 := n1_; have BK528 := n2_; have HB := n3_; clear n0_ n1_ n2_ n3_; (try clear hb); (try clear hb2); (try clear hk); (try clear hi); (try clear ho0); obtain ⟨Ao55, co55, eo55⟩ := Kd.R_slice HO538.out; subst eo55) | ((with_reducible refine gate_callee (f := 10) rfl ?_); refine goesL_ (some 69) rfl rfl Tryd.func10 (by kernel_rfl) rfl #[.slice Ao55 t536.length co55] rfl (by (try simp only [List.map_toArray, List.map_cons, List.map_nil]); first | done | rfl | (simp only [List.length_drop, List.length_take]; rfl)) ?_; (with_reducible refine (patch_Decode.calls _ _ t536 t539 t542 t543 t544 t547 _ ?side1 ?side2 A45.out).mono ?_); (case side1 => repeat (first | exact (Kd.R_reads' HO538.out).2.2 | (with_reducible refine Kd.C_alloc ?_ _) | (with_reducible refine Kd.C_drewN ?_ _) | (with_reducible refine Kd.C_drew ?_))); (case side2 => exact (Kd.R_reads' HO538.out).2.1); rintro e w56 ⟨v540, v545, rfl, ho0, ho1, hb⟩; refine ⟨_, rfl, ?_⟩; have n0_ := Aside0.mk (Kd.R_elder' (by (with_reducible repeat (first | apply Kd.R_alloc | apply Kd.R_drewN | apply Kd.R_drew)); exact HO_529000.out) (Kd.R_base ho0) hb); have n1_ := Aside0.mk (Kd.R_below (by (with_reducible repeat (first | apply Kd.R_alloc | apply Kd.R_drewN | apply Kd.R_drew)); exact HO538.out) hb); have n2_ := Aside0.mk (Kd.R_lower (Kd.R_new' ho0 (Kd.R_lt (by (with_reducible repeat (first | apply Kd.R_alloc | apply Kd.R_drewN | apply Kd.R_drew)); exact HO_529000.out))) (zK (by repeat (first | (with_reducible first | exact HB.out | apply zC | apply zA | apply zB | refine zE ?_ GE528.out) | exact HB.out)))); have n3_ := Aside0.mk (Kd.R_lower ho1 (zK (by repeat (first | (with_reducible first | exact HB.out | apply zC | apply zA | apply zB | refine zE ?_ GE528.out) | exact HB.out)))); have n4_ := Aside0.mk (zM (g := gb528) (o := .cells #[.slice Ao53 x529000_1.length co53, .string (strOfNums y522), .string (strOfNums y525), .slice none 0 0] 25 (0, 0)) (by (with_reducible repeat (first | refine zG ?_ _ | refine zI ?_ | refine zF ?_ _)); exact BK528.out) hb); have n5_ := Aside0.mk (zL (by repeat (first | (with_reducible first | exact HB.out | apply zC | apply zA | apply zB | refine zE ?_ GE528.out) | exact HB.out)) hb); clear HO_529000; clear HO538; clear BK528; clear HB; have HO_529000 := n0_; have HO538 := n1_; have HO541 := n2_; have HO546 := n3_; have BK528 := n4_; have HB := n5_; clear n0_ n1_ n2_ n3_ n4_ n5_; (try clear hb); (try clear hb2); (try clear hk); (try clear hi); (try clear ho0); (try clear ho1)) | ((with_reducible refine gate_dst (N := 14) rfl ?_); (try (refine gate_guard (by rfl) ?_; dsimp only)); refine box_event ?hg (N := 14) ?hd (cs := #[.slice none 0 0, .string (⟨#[]⟩ : ByteArray), .string (⟨#[]⟩ : ByteArray), .slice none 0 0]) (t := 25) ?hr ?_; (case hd => rfl); (case hg => rfl); (case hr => first | (go_simp; done) | (go_simp; rfl)); intro gb548 hg w57 hbox hb; have n0_ := Aside0.mk (Kd.R_below (by (with_reducible repeat (first | apply Kd.R_alloc | apply Kd.R_drewN | apply Kd.R_drew)); exact HO_529000.out) hb); have n1_ := Aside0.mk (Kd.R_below (by (with_reducible repeat (first | apply Kd.R_alloc | apply Kd.R_drewN | apply Kd.R_drew)); exact HO538.out) hb); have n2_ := Aside0.mk (Kd.R_below (by (with_reducible repeat (first | apply Kd.R_alloc | apply Kd.R_drewN | apply Kd.R_drew)); exact HO541.out) hb); have n3_ := Aside0.mk (Kd.R_below (by (with_reducible repeat (first | apply Kd.R_alloc | apply Kd.R_drewN | apply Kd.R_drew)); exact HO546.out) hb); have n4_ := Aside0.mk (zM (g := gb528) (o := .cells #[.slice Ao53 x529000_1.length co53, .string (strOfNums y522), .string (strOfNums y525), .slice none 0 0] 25 (0, 0)) (by (with_reducible repeat (first | refine zG ?_ _ | refine zI ?_ | refine zF ?_ _)); exact BK528.out) hb); have n5_ := Aside0.mk (zL (by repeat (first | (with_reducible first | exact HB.out | apply zC | apply zA | apply zB | refine zE ?_ GE528.out) | exact HB.out)) hb); have n6_ := Aside0.mk (hbox); have n7_ := Aside0.mk ((by rw [hg]; exact (zK (by repeat (first | (with_reducible first | exact HB.out | apply zC | apply zA | apply zB | refine zE ?_ GE528.out) | exact HB.out))) : w.heap.size ≤ gb548)); have n8_ := Aside0.mk ((by rw [hg]; exact (zK (by repeat (first | (with_reducible first | exact HB.out | apply zC | apply zA | apply zB | refine zE ?_ GE528.out) | exact HB.out))) : w.heap.size ≤ gb548)); have n9_ := Aside0.mk ((by rw [hg]; exact Nat.ne_of_lt (blk_lt (g := gb528) (o := .cells #[.slice Ao53 x529000_1.length co53, .string (strOfNums y522), .string (strOfNums y525), .slice none 0 0] 25 (0, 0)) (by (with_reducible repeat (first | refine zG ?_ _ | refine zI ?_ | refine zF ?_ _)); exact BK528.out)) : gb528 ≠ gb548)); have n10_ := Aside0.mk ((by rw [hg]; exact Nat.ne_of_gt (blk_lt (g := gb528) (o := .cells #[.slice Ao53 x529000_1.length co53, .string (strOfNums y522), .string (strOfNums y525), .slice none 0 0] 25 (0, 0)) (by (with_reducible repeat (first | refine zG ?_ _ | refine zI ?_ | refine zF ?_ _)); exact BK528.out)) : gb548 ≠ gb528)); clear HO_529000; clear HO538; clear HO541; clear HO546; clear BK528; clear HB; have HO_529000 := n0_; have HO538 := n1_; have HO541 := n2_; have HO546 := n3_; have BK528 := n4_; have HB := n5_; have BK548 := n6_; have GW548 := n7_; have GE548 := n8_; have NB528_548 := n9_; have NB548_528 := n10_; clear n0_ n1_ n2_ n3_ n4_ n5_ n6_ n7_ n8_ n9_ n10_; clear hb hbox hg; obtain ⟨Ao58, co58, eo58⟩ := Kd.R_slice HO541.out; subst eo58; have hnb59 := NB548_528.out; have hnc59 := NB528_548.out; have hcz60_0 : w57.cell? ⟨gb548, 0, none⟩ = some (.slice none 0 0) := (zD BK548.out 0).trans rfl; have hcz60_1 : w57.cell? ⟨gb548, 1, none⟩ = some (.string (⟨#[]⟩ : ByteArray)) := (zD BK548.out 1).trans rfl; have hcz60_2 : w57.cell? ⟨gb548, 2, none⟩ = some (.string (⟨#[]⟩ : ByteArray)) := (zD BK548.out 2).trans rfl; have hcz60_3 : w57.cell? ⟨gb548, 3, none⟩ = some (.slice none 0 0) := (zD BK548.out 3).trans rfl; have hfz60_0 := zH BK548.out 0; have hfz60_1 := zH BK548.out 1; have hfz60_2 := zH BK548.out 2; have hfz60_3 := zH BK548.out 3; obtain ⟨Ao61, co61, eo61⟩ := Kd.R_slice HO546.out; subst eo61; have hcz62_0 : w57.cell? ⟨gb528, 0, none⟩ = some (.slice Ao53 x529000_1.length co53) := (zD BK528.out 0).trans rfl; have hcz62_1 : w57.cell? ⟨gb528, 1, none⟩ = some (.string (strOfNums y522)) := (zD BK528.out 1).trans rfl; have hcz62_2 : w57.cell? ⟨gb528, 2, none⟩ = some (.string (strOfNums y525)) := (zD BK528.out 2).trans rfl; have hcz62_3 : w57.cell? ⟨gb528, 3, none⟩ = some (.slice none 0 0) := (zD BK528.out 3).trans rfl; have hfz62_0 := zH BK528.out 0; have hfz62_1 := zH BK528.out 1; have hfz62_2 := zH BK528.out 2; have hfz62_3 := zH BK528.out 3) | (go_at_call 19; (refine (patch_Right.calls kj38 _ _ x529000_1 (strOfNums y522) (strOfNums y525) _ _ ([] : List (S48)) t549 _ ?side1 ?side2 ?side3 ?side4 A48.out).mono ?_); (case side1 => refine (Kd.R_reads' (e := 35) (base := w.heap.size) (ok := fun k_ => (True ∧ some k_ ≠ (.slice Ao58 t539.length co58 : Value).ownBlock)) (n := x529000_1.length) (c := co53) ?_).2.2; exact (by (with_reducible repeat (first | apply Kd.R_alloc | apply Kd.R_drewN | apply Kd.R_drew)); exact (Kd.R_mono (Kd.R_far (p := ⟨gb548, 3, none⟩) (Kd.R_far (p := ⟨gb548, 2, none⟩) (Kd.R_far (p := ⟨gb548, 1, none⟩) (Kd.R_far (p := ⟨gb548, 0, none⟩) (Kd.R_types HO_529000.out BK548.out (by decide)) (fun _ hk => hk.2) (.slice Ao58 t539.length co58)) (fun _ hk => hk.2) (.string t542)) (fun _ hk => hk.2) (.string t543)) (fun _ hk => hk.2) (.slice Ao61 t544.length co61)) (fun _ h_ => h_.1)))); (case side2 => exact (Kd.R_reads' HO_529000.out).2.1); (case side3 => exact Kd.C_nil _ _); (case side4 => exact Nat.le_refl _); rintro e w63 ⟨rfl, hb⟩; have n0_ := Aside0.mk (Kd.R_below (by (with_reducible repeat (first | apply Kd.R_alloc | apply Kd.R_drewN | apply Kd.R_drew)); exact (Kd.R_mono (Kd.R_far (p := ⟨gb548, 3, none⟩) (Kd.R_far (p := ⟨gb548, 2, none⟩) (Kd.R_far (p := ⟨gb548, 1, none⟩) (Kd.R_far (p := ⟨gb548, 0, none⟩) (Kd.R_types HO_529000.out BK548.out (by decide)) (fun _ hk => hk.2) (.slice Ao58 t539.length co58)) (fun _ hk => hk.2) (.string t542)) (fun _ hk => hk.2) (.string t543)) (fun _ hk => hk.2) (.slice Ao61 t544.length co61)) (fun _ h_ => h_.1))) hb); have n1_ := Aside0.mk (Kd.R_below (by (with_reducible repeat (first | apply Kd.R_alloc | apply Kd.R_drewN | apply Kd.R_drew)); exact (Kd.R_mono (Kd.R_far (p := ⟨gb548, 3, none⟩) (Kd.R_far (p := ⟨gb548, 2, none⟩) (Kd.R_far (p := ⟨gb548, 1, none⟩) (Kd.R_far (p := ⟨gb548, 0, none⟩) (Kd.R_types HO538.out BK548.out (by decide)) (fun _ hk => hk.2) (.slice Ao58 t539.length co58)) (fun _ hk => hk.2) (.string t542)) (fun _ hk => hk.2) (.string t543)) (fun _ hk => hk.2) (.slice Ao61 t544.length co61)) (fun _ h_ => h_.1))) hb); have n2_ := Aside0.mk (Kd.R_below (by (with_reducible repeat (first | apply Kd.R_alloc | apply Kd.R_drewN | apply Kd.R_drew)); exact (Kd.R_mono (Kd.R_far (p := ⟨gb548, 3, none⟩) (Kd.R_far (p := ⟨gb548, 2, none⟩) (Kd.R_far (p := ⟨gb548, 1, none⟩) (Kd.R_far (p := ⟨gb548, 0, none⟩) (Kd.R_types HO541.out BK548.out (by decide)) (fun _ hk => hk.2) (.slice Ao58 t539.length co58)) (fun _ hk => hk.2) (.string t542)) (fun _ hk => hk.2) (.string t543)) (fun _ hk => hk.2) (.slice Ao61 t544.length co61)) (fun _ h_ => h_.1))) hb); have n3_ := Aside0.mk (Kd.R_below (by (with_reducible repeat (first | apply Kd.R_alloc | apply Kd.R_drewN | apply Kd.R_drew)); exact (Kd.R_mono (Kd.R_far (p := ⟨gb548, 3, none⟩) (Kd.R_far (p := ⟨gb548, 2, none⟩) (Kd.R_far (p := ⟨gb548, 1, none⟩) (Kd.R_far (p := ⟨gb548, 0, none⟩) (Kd.R_types HO546.out BK548.out (by decide)) (fun _ hk => hk.2) (.slice Ao58 t539.length co58)) (fun _ hk => hk.2) (.string t542)) (fun _ hk => hk.2) (.string t543)) (fun _ hk => hk.2) (.slice Ao61 t544.length co61)) (fun _ h_ => h_.1))) hb); have n4_ := Aside0.mk (zM (g := gb528) (o := .cells #[.slice Ao53 x529000_1.length co53, .string (strOfNums y522), .string (strOfNums y525), .slice none 0 0] 25 (0, 0)) (by (with_reducible repeat (first | refine zG ?_ _ | refine zI ?_ | refine zF ?_ _)); refine blk_far ?_ NB528_548.out _; (with_reducible repeat (first | refine zG ?_ _ | refine zI ?_ | refine zF ?_ _)); refine blk_far ?_ NB528_548.out _; (with_reducible repeat (first | refine zG ?_ _ | refine zI ?_ | refine zF ?_ _)); refine blk_far ?_ NB528_548.out _; (with_reducible repeat (first | refine zG ?_ _ | refine zI ?_ | refine zF ?_ _)); refine blk_far ?_ NB528_548.out _; (with_reducible repeat (first | refine zG ?_ _ | refine zI ?_ | refine zF ?_ _)); exact BK528.out) hb); have n5_ := Aside0.mk (zM (g := gb548) (o := .cells #[.slice Ao58 t539.length co58, .string t542, .string t543, .slice Ao61 t544.length co61] 25 (0, 0)) (by (with_reducible repeat (first | refine zG ?_ _ | refine zI ?_ | refine zF ?_ _)); refine blk_put (cs := #[.slice Ao58 t539.length co58, .string t542, .string t543, .slice none 0 0]) ?_ 3 _ rfl; (with_reducible repeat (first | refine zG ?_ _ | refine zI ?_ | refine zF ?_ _)); refine blk_put (cs := #[.slice Ao58 t539.length co58, .string t542, .string (⟨#[]⟩ : ByteArray), .slice none 0 0]) ?_ 2 _ rfl; (with_reducible repeat (first | refine zG ?_ _ | refine zI ?_ | refine zF ?_ _)); refine blk_put (cs := #[.slice Ao58 t539.length co58, .string (⟨#[]⟩ : ByteArray), .string (⟨#[]⟩ : ByteArray), .slice none 0 0]) ?_ 1 _ rfl; (with_reducible repeat (first | refine zG ?_ _ | refine zI ?_ | refine zF ?_ _)); refine blk_put (cs := #[.slice none 0 0, .string (⟨#[]⟩ : ByteArray), .string (⟨#[]⟩ : ByteArray), .slice none 0 0]) ?_ 0 _ rfl; (with_reducible repeat (first | refine zG ?_ _ | refine zI ?_ | refine zF ?_ _)); exact BK548.out) hb); have n6_ := Aside0.mk (zL (by repeat (first | (with_reducible first | exact HB.out | apply zC | apply zA | apply zB | refine zE ?_ GE528.out | refine zE ?_ GE548.out) | exact HB.out)) hb); clear HO_529000; clear HO538; clear HO541; clear HO546; clear BK528; clear BK548; clear HB; have HO_529000 := n0_; have HO538 := n1_; have HO541 := n2_; have HO546 := n3_; have BK528 := n4_; have BK548 := n5_; have HB := n6_; clear n0_ n1_ n2_ n3_ n4_ n5_ n6_; (try clear hb); (try clear hb2); (try clear hk); (try clear hi); have hcz64_0 : w63.cell? ⟨gb528, 0, none⟩ = some (.slice Ao53 x529000_1.length co53) := (zD BK528.out 0).trans rfl; have hcz64_1 : w63.cell? ⟨gb528, 1, none⟩ = some (.string (strOfNums y522)) := (zD BK528.out 1).trans rfl; have hcz64_2 : w63.cell? ⟨gb528, 2, none⟩ = some (.string (strOfNums y525)) := (zD BK528.out 2).trans rfl; have hcz64_3 : w63.cell? ⟨gb528, 3, none⟩ = some (.slice none 0 0) := (zD BK528.out 3).trans rfl; have hfz64_0 := zH BK528.out 0; have hfz64_1 := zH BK528.out 1; have hfz64_2 := zH BK528.out 2; have hfz64_3 := zH BK528.out 3; have hcz65_0 : w63.cell? ⟨gb548, 0, none⟩ = some (.slice Ao58 t539.length co58) := (zD BK548.out 0).trans rfl; have hcz65_1 : w63.cell? ⟨gb548, 1, none⟩ = some (.string t542) := (zD BK548.out 1).trans rfl; have hcz65_2 : w63.cell? ⟨gb548, 2, none⟩ = some (.string t543) := (zD BK548.out 2).trans rfl; have hcz65_3 : w63.cell? ⟨gb548, 3, none⟩ = some (.slice Ao61 t544.length co61) := (zD BK548.out 3).trans rfl; have hfz65_0 := zH BK548.out 0; have hfz65_1 := zH BK548.out 1; have hfz65_2 := zH BK548.out 2; have hfz65_3 := zH BK548.out 3) | (go_at_call 11; (refine (grapevineref12_Same.calls kj38 _ _ x529000_1 (strOfNums y522) (strOfNums y525) _ _ ([] : List (S48)) _ _ t539 t542 t543 _ _ t544 t550 _ ?side1 ?side2 ?side3 ?side4 ?side5 ?side6 ?side7 ?side8 A51.out).mono ?_); (case side1 => repeat (first | exact (Kd.R_reads' HO_529000.out).2.2 | (with_reducible refine Kd.C_alloc ?_ _) | (with_reducible refine Kd.C_drewN ?_ _) | (with_reducible refine Kd.C_drew ?_))); (case side2 => exact (Kd.R_reads' HO_529000.out).2.1); (case side3 => exact Kd.C_nil _ _); (case side4 => exact Nat.le_refl _); (case side5 => repeat (first | exact (Kd.R_reads' HO541.out).2.2 | (with_reducible refine Kd.C_alloc ?_ _) | (with_reducible refine Kd.C_drewN ?_ _) | (with_reducible refine Kd.C_drew ?_))); (case side6 => exact (Kd.R_reads' HO541.out).2.1); (case side7 => repeat (first | exact (Kd.R_reads' HO546.out).2.2 | (with_reducible refine Kd.C_alloc ?_ _) | (with_reducible refine Kd.C_drewN ?_ _) | (with_reducible refine Kd.C_drew ?_))); (case side8 => exact (Kd.R_reads' HO546.out).2.1); rintro e w66 ⟨rfl, hb⟩; have n0_ := Aside0.mk (Kd.R_below (by (with_reducible repeat (first | apply Kd.R_alloc | apply Kd.R_drewN | apply Kd.R_drew)); exact HO_529000.out) hb); have n1_ := Aside0.mk (Kd.R_below (by (with_reducible repeat (first | apply Kd.R_alloc | apply Kd.R_drewN | apply Kd.R_drew)); exact HO538.out) hb); have n2_ := Aside0.mk (Kd.R_below (by (with_reducible repeat (first | apply Kd.R_alloc | apply Kd.R_drewN | apply Kd.R_drew)); exact HO541.out) hb); have n3_ := Aside0.mk (Kd.R_below (by (with_reducible repeat (first | apply Kd.R_alloc | apply Kd.R_drewN | apply Kd.R_drew)); exact HO546.out) hb); have n4_ := Aside0.mk (zM (g := gb528) (o := .cells #[.slice Ao53 x529000_1.length co53, .string (strOfNums y522), .string (strOfNums y525), .slice none 0 0] 25 (0, 0)) (by (with_reducible repeat (first | refine zG ?_ _ | refine zI ?_ | refine zF ?_ _)); exact BK528.out) hb); have n5_ := Aside0.mk (zM (g := gb548) (o := .cells #[.slice Ao58 t539.length co58, .string t542, .string t543, .slice Ao61 t544.length co61] 25 (0, 0)) (by (with_reducible repeat (first | refine zG ?_ _ | refine zI ?_ | refine zF ?_ _)); exact BK548.out) hb); have n6_ := Aside0.mk (zL (by repeat (first | (with_reducible first | exact HB.out | apply zC | apply zA | apply zB | refine zE ?_ GE528.out | refine zE ?_ GE548.out) | exact HB.out)) hb); clear HO_529000; clear HO538; clear HO541; clear HO546; clear BK528; clear BK548; clear HB; have HO_529000 := n0_; have HO538 := n1_; have HO541 := n2_; have HO546 := n3_; have BK528 := n4_; have BK548 := n5_; have HB := n6_; clear n0_ n1_ n2_ n3_ n4_ n5_ n6_; (try clear hb); (try clear hb2); (try clear hk); (try clear hi)))
              go_ret
              exact ⟨by first | rfl | (simp [zO, zN] <;> rfl) | (simp only [← hji5, ← hji8]; first | rfl | (simp [zO, zN] <;> rfl)) | (simp [*, zO, zN] <;> rfl), by repeat (first | (with_reducible first | exact HB.out | apply zC | apply zA | apply zB | refine zE ?_ GE528.out | refine zE ?_ GE548.out) | exact HB.out)⟩
             ·
              rw [if_neg c50] at H
              have c50b0 : (t547 == 0) = false := beq_eq_false_iff_ne.mpr c50
              have c50b1 : (t547 != 0) = true := bne_iff_ne.mpr c50
              obtain rfl := Option.some.inj H
              exact absurd hrt (by decide)
            ·
             rw [if_neg c49] at H
             have c49b0 : (t549 == true) = false := by simpa using c49
             (try (have c49b1 : decide (t549 = true) = false := by simpa using c49))
             (try (have c49b2 : (t549 == true) = false := by simpa using c49))
             (try (have c49b3 : ¬ (t549 = true) := by simpa using c49))
             clear c49
             obtain rfl := Option.some.inj H
             exact absurd hrt (by decide)
           ·
            replace c47 := Bool.eq_false_iff.mpr c47
            subst c47
            have H1 : (some false) = some r := by rw [if_neg (show ¬ (false = true) by decide)] at H; exact H
            clear H
            have H := H1
            clear H1
            obtain rfl := Option.some.inj H
            exact absurd hrt (by decide)
          ·
           replace c46 := Bool.eq_false_iff.mpr c46
           subst c46
           have H1 : (if t521 = true then ((patch_Right.f kj38 x529000_1 (strOfNums y522) (strOfNums y525) ([] : List (S48))).bind fun t551 => (if (t551 == false) = true then (if t547 = 4 then (some true) else (some false)) else (some false))) else (some false)) = some r := by rw [if_neg (show ¬ (false = true) by decide)] at H; exact H
           clear H
           have H := H1
           clear H1
           by_cases c101 : t521 = true
           ·
            subst c101
            have H1 : ((patch_Right.f kj38 x529000_1 (strOfNums y522) (strOfNums y525) ([] : List (S48))).bind fun t551 => (if (t551 == false) = true then (if t547 = 4 then (some true) else (some false)) else (some false))) = some r := by rw [if_pos rfl] at H; exact H
            clear H
            have H := H1
            clear H1
            replace H := Option.bind_eq_some_iff.mp H
            obtain ⟨t551, A1020, H⟩ := H
            replace H : (if (t551 == false) = true then (if t547 = 4 then (some true) else (some false)) else (some false)) = some r := H
            have A102 := Aside0.mk A1020
            clear A1020
            by_cases c103 : (t551 == false) = true
            ·
             rw [if_pos c103] at H
             have c103b0 : (t551 == false) = true := c103
             (try (have c103b1 : decide (t551 = false) = true := by simpa using c103))
             (try (have c103b2 : (t551 == false) = true := by simpa using c103))
             clear c103
             by_cases c104 : t547 = 4
             ·
              rw [if_pos c104] at H
              have c104b0 : (t547 == 4) = true := beq_iff_eq.mpr c104
              have c104b1 : (t547 != 4) = false := bne_eq_false_iff_eq.mpr c104
              clear c104
              obtain rfl := Option.some.inj H
              clear hrt
              have hcz105_0 : wc.cell? ⟨gb528, 0, none⟩ = some (u529000) := (zD BK528.out 0).trans rfl
              have hcz105_1 : wc.cell? ⟨gb528, 1, none⟩ = some (.string (strOfNums y522)) := (zD BK528.out 1).trans rfl
              have hcz105_2 : wc.cell? ⟨gb528, 2, none⟩ = some (.string (strOfNums y525)) := (zD BK528.out 2).trans rfl
              have hcz105_3 : wc.cell? ⟨gb528, 3, none⟩ = some (.slice none 0 0) := (zD BK528.out 3).trans rfl
              have hfz105_0 := zH BK528.out 0
              have hfz105_1 := zH BK528.out 1
              have hfz105_2 := zH BK528.out 2
              have hfz105_3 := zH BK528.out 3
              obtain ⟨Ao106, co106, eo106⟩ := Kd.R_slice HO_529000.out
              subst eo106
              go_wp2_with (first | ((with_reducible refine gate_callee (f := 20) rfl ?_); refine goesL_ (some 66) rfl rfl Tryd.func20 (by kernel_rfl) rfl #[.agg #[.slice Ao106 x529000_1.length co106, .string (strOfNums y522), .string (strOfNums y525), .slice none 0 0]] rfl (by (try simp only [List.map_toArray, List.map_cons, List.map_nil]); first | done | rfl | (simp only [List.length_drop, List.length_take]; rfl)) ?_; (refine (grapevineref12_Form.calls kj38 _ _ x529000_1 (strOfNums y522) (strOfNums y525) _ _ ([] : List (S48)) t536 _ ?side1 ?side2 ?side3 ?side4 A44.out).mono ?_); (case side1 => repeat (first | exact (Kd.R_reads' HO_529000.out).2.2 | (with_reducible refine Kd.C_alloc ?_ _) | (with_reducible refine Kd.C_drewN ?_ _) | (with_reducible refine Kd.C_drew ?_))); (case side2 => exact (Kd.R_reads' HO_529000.out).2.1); (case side3 => exact Kd.C_nil _ _); (case side4 => exact Nat.le_refl _); rintro e w107 ⟨v537, rfl, ho0, hb⟩; refine ⟨_, rfl, ?_⟩; have n0_ := Aside0.mk (Kd.R_below (by (with_reducible repeat (first | apply Kd.R_alloc | apply Kd.R_drewN | apply Kd.R_drew)); exact HO_529000.out) hb); have n1_ := Aside0.mk (Kd.R_lower ho0 (zK (by repeat (first | (with_reducible first | exact HB.out | apply zC | apply zA | apply zB | refine zE ?_ GE528.out) | exact HB.out)))); have n2_ := Aside0.mk (zM (g := gb528) (o := .cells #[.slice Ao106 x529000_1.length co106, .string (strOfNums y522), .string (strOfNums y525), .slice none 0 0] 25 (0, 0)) (by (with_reducible repeat (first | refine zG ?_ _ | refine zI ?_ | refine zF ?_ _)); exact BK528.out) hb); have n3_ := Aside0.mk (zL (by repeat (first | (with_reducible first | exact HB.out | apply zC | apply zA | apply zB | refine zE ?_ GE528.out) | exact HB.out)) hb); clear HO_529000; clear BK528; clear HB; have HO_529000 := n0_; have HO538 := n1_; have BK528 := n2_; have HB := n3_; clear n0_ n1_ n2_ n3_; (try clear hb); (try clear hb2); (try clear hk); (try clear hi); (try clear ho0); obtain ⟨Ao108, co108, eo108⟩ := Kd.R_slice HO538.out; subst eo108) | ((with_reducible refine gate_callee (f := 10) rfl ?_); refine goesL_ (some 69) rfl rfl Tryd.func10 (by kernel_rfl) rfl #[.slice Ao108 t536.length co108] rfl (by (try simp only [List.map_toArray, List.map_cons, List.map_nil]); first | done | rfl | (simp only [List.length_drop, List.length_take]; rfl)) ?_; (with_reducible refine (patch_Decode.calls _ _ t536 t539 t542 t543 t544 t547 _ ?side1 ?side2 A45.out).mono ?_); (case side1 => repeat (first | exact (Kd.R_reads' HO538.out).2.2 | (with_reducible refine Kd.C_alloc ?_ _) | (with_reducible refine Kd.C_drewN ?_ _) | (with_reducible refine Kd.C_drew ?_))); (case side2 => exact (Kd.R_reads' HO538.out).2.1); rintro e w109 ⟨v540, v545, rfl, ho0, ho1, hb⟩; refine ⟨_, rfl, ?_⟩; have n0_ := Aside0.mk (Kd.R_elder' (by (with_reducible repeat (first | apply Kd.R_alloc | apply Kd.R_drewN | apply Kd.R_drew)); exact HO_529000.out) (Kd.R_base ho0) hb); have n1_ := Aside0.mk (Kd.R_below (by (with_reducible repeat (first | apply Kd.R_alloc | apply Kd.R_drewN | apply Kd.R_drew)); exact HO538.out) hb); have n2_ := Aside0.mk (Kd.R_lower (Kd.R_new' ho0 (Kd.R_lt (by (with_reducible repeat (first | apply Kd.R_alloc | apply Kd.R_drewN | apply Kd.R_drew)); exact HO_529000.out))) (zK (by repeat (first | (with_reducible first | exact HB.out | apply zC | apply zA | apply zB | refine zE ?_ GE528.out) | exact HB.out)))); have n3_ := Aside0.mk (Kd.R_lower ho1 (zK (by repeat (first | (with_reducible first | exact HB.out | apply zC | apply zA | apply zB | refine zE ?_ GE528.out) | exact HB.out)))); have n4_ := Aside0.mk (zM (g := gb528) (o := .cells #[.slice Ao106 x529000_1.length co106, .string (strOfNums y522), .string (strOfNums y525), .slice none 0 0] 25 (0, 0)) (by (with_reducible repeat (first | refine zG ?_ _ | refine zI ?_ | refine zF ?_ _)); exact BK528.out) hb); have n5_ := Aside0.mk (zL (by repeat (first | (with_reducible first | exact HB.out | apply zC | apply zA | apply zB | refine zE ?_ GE528.out) | exact HB.out)) hb); clear HO_529000; clear HO538; clear BK528; clear HB; have HO_529000 := n0_; have HO538 := n1_; have HO541 := n2_; have HO546 := n3_; have BK528 := n4_; have HB := n5_; clear n0_ n1_ n2_ n3_ n4_ n5_; (try clear hb); (try clear hb2); (try clear hk); (try clear hi); (try clear ho0); (try clear ho1)) | ((with_reducible refine gate_dst (N := 14) rfl ?_); (try (refine gate_guard (by rfl) ?_; dsimp only)); refine box_event ?hg (N := 14) ?hd (cs := #[.slice none 0 0, .string (⟨#[]⟩ : ByteArray), .string (⟨#[]⟩ : ByteArray), .slice none 0 0]) (t := 25) ?hr ?_; (case hd => rfl); (case hg => rfl); (case hr => first | (go_simp; done) | (go_simp; rfl)); intro gb548 hg w110 hbox hb; have n0_ := Aside0.mk (Kd.R_below (by (with_reducible repeat (first | apply Kd.R_alloc | apply Kd.R_drewN | apply Kd.R_drew)); exact HO_529000.out) hb); have n1_ := Aside0.mk (Kd.R_below (by (with_reducible repeat (first | apply Kd.R_alloc | apply Kd.R_drewN | apply Kd.R_drew)); exact HO538.out) hb); have n2_ := Aside0.mk (Kd.R_below (by (with_reducible repeat (first | apply Kd.R_alloc | apply Kd.R_drewN | apply Kd.R_drew)); exact HO541.out) hb); have n3_ := Aside0.mk (Kd.R_below (by (with_reducible repeat (first | apply Kd.R_alloc | apply Kd.R_drewN | apply Kd.R_drew)); exact HO546.out) hb); have n4_ := Aside0.mk (zM (g := gb528) (o := .cells #[.slice Ao106 x529000_1.length co106, .string (strOfNums y522), .string (strOfNums y525), .slice none 0 0] 25 (0, 0)) (by (with_reducible repeat (first | refine zG ?_ _ | refine zI ?_ | refine zF ?_ _)); exact BK528.out) hb); have n5_ := Aside0.mk (zL (by repeat (first | (with_reducible first | exact HB.out | apply zC | apply zA | apply zB | refine zE ?_ GE528.out) | exact HB.out)) hb); have n6_ := Aside0.mk (hbox); have n7_ := Aside0.mk ((by rw [hg]; exact (zK (by repeat (first | (with_reducible first | exact HB.out | apply zC | apply zA | apply zB | refine zE ?_ GE528.out) | exact HB.out))) : w.heap.size ≤ gb548)); have n8_ := Aside0.mk ((by rw [hg]; exact (zK (by repeat (first | (with_reducible first | exact HB.out | apply zC | apply zA | apply zB | refine zE ?_ GE528.out) | exact HB.out))) : w.heap.size ≤ gb548)); have n9_ := Aside0.mk ((by rw [hg]; exact Nat.ne_of_lt (blk_lt (g := gb528) (o := .cells #[.slice Ao106 x529000_1.length co106, .string (strOfNums y522), .string (strOfNums y525), .slice none 0 0] 25 (0, 0)) (by (with_reducible repeat (first | refine zG ?_ _ | refine zI ?_ | refine zF ?_ _)); exact BK528.out)) : gb528 ≠ gb548)); have n10_ := Aside0.mk ((by rw [hg]; exact Nat.ne_of_gt (blk_lt (g := gb528) (o := .cells #[.slice Ao106 x529000_1.length co106, .string (strOfNums y522), .string (strOfNums y525), .slice none 0 0] 25 (0, 0)) (by (with_reducible repeat (first | refine zG ?_ _ | refine zI ?_ | refine zF ?_ _)); exact BK528.out)) : gb548 ≠ gb528)); clear HO_529000; clear HO538; clear HO541; clear HO546; clear BK528; clear HB; have HO_529000 := n0_; have HO538 := n1_; have HO541 := n2_; have HO546 := n3_; have BK528 := n4_; have HB := n5_; have BK548 := n6_; have GW548 := n7_; have GE548 := n8_; have NB528_548 := n9_; have NB548_528 := n10_; clear n0_ n1_ n2_ n3_ n4_ n5_ n6_ n7_ n8_ n9_ n10_; clear hb hbox hg; obtain ⟨Ao111, co111, eo111⟩ := Kd.R_slice HO541.out; subst eo111; have hnb112 := NB548_528.out; have hnc112 := NB528_548.out; have hcz113_0 : w110.cell? ⟨gb548, 0, none⟩ = some (.slice none 0 0) := (zD BK548.out 0).trans rfl; have hcz113_1 : w110.cell? ⟨gb548, 1, none⟩ = some (.string (⟨#[]⟩ : ByteArray)) := (zD BK548.out 1).trans rfl; have hcz113_2 : w110.cell? ⟨gb548, 2, none⟩ = some (.string (⟨#[]⟩ : ByteArray)) := (zD BK548.out 2).trans rfl; have hcz113_3 : w110.cell? ⟨gb548, 3, none⟩ = some (.slice none 0 0) := (zD BK548.out 3).trans rfl; have hfz113_0 := zH BK548.out 0; have hfz113_1 := zH BK548.out 1; have hfz113_2 := zH BK548.out 2; have hfz113_3 := zH BK548.out 3; obtain ⟨Ao114, co114, eo114⟩ := Kd.R_slice HO546.out; subst eo114; have hcz115_0 : w110.cell? ⟨gb528, 0, none⟩ = some (.slice Ao106 x529000_1.length co106) := (zD BK528.out 0).trans rfl; have hcz115_1 : w110.cell? ⟨gb528, 1, none⟩ = some (.string (strOfNums y522)) := (zD BK528.out 1).trans rfl; have hcz115_2 : w110.cell? ⟨gb528, 2, none⟩ = some (.string (strOfNums y525)) := (zD BK528.out 2).trans rfl; have hcz115_3 : w110.cell? ⟨gb528, 3, none⟩ = some (.slice none 0 0) := (zD BK528.out 3).trans rfl; have hfz115_0 := zH BK528.out 0; have hfz115_1 := zH BK528.out 1; have hfz115_2 := zH BK528.out 2; have hfz115_3 := zH BK528.out 3) | (go_at_call 19; (refine (patch_Right.calls kj38 _ _ x529000_1 (strOfNums y522) (strOfNums y525) _ _ ([] : List (S48)) t551 _ ?side1 ?side2 ?side3 ?side4 A102.out).mono ?_); (case side1 => refine (Kd.R_reads' (e := 35) (base := w.heap.size) (ok := fun k_ => (True ∧ some k_ ≠ (.slice Ao111 t539.length co111 : Value).ownBlock)) (n := x529000_1.length) (c := co106) ?_).2.2; exact (by (with_reducible repeat (first | apply Kd.R_alloc | apply Kd.R_drewN | apply Kd.R_drew)); exact (Kd.R_mono (Kd.R_far (p := ⟨gb548, 3, none⟩) (Kd.R_far (p := ⟨gb548, 2, none⟩) (Kd.R_far (p := ⟨gb548, 1, none⟩) (Kd.R_far (p := ⟨gb548, 0, none⟩) (Kd.R_types HO_529000.out BK548.out (by decide)) (fun _ hk => hk.2) (.slice Ao111 t539.length co111)) (fun _ hk => hk.2) (.string t542)) (fun _ hk => hk.2) (.string t543)) (fun _ hk => hk.2) (.slice Ao114 t544.length co114)) (fun _ h_ => h_.1)))); (case side2 => exact (Kd.R_reads' HO_529000.out).2.1); (case side3 => exact Kd.C_nil _ _); (case side4 => exact Nat.le_refl _); rintro e w116 ⟨rfl, hb⟩; have n0_ := Aside0.mk (Kd.R_below (by (with_reducible repeat (first | apply Kd.R_alloc | apply Kd.R_drewN | apply Kd.R_drew)); exact (Kd.R_mono (Kd.R_far (p := ⟨gb548, 3, none⟩) (Kd.R_far (p := ⟨gb548, 2, none⟩) (Kd.R_far (p := ⟨gb548, 1, none⟩) (Kd.R_far (p := ⟨gb548, 0, none⟩) (Kd.R_types HO_529000.out BK548.out (by decide)) (fun _ hk => hk.2) (.slice Ao111 t539.length co111)) (fun _ hk => hk.2) (.string t542)) (fun _ hk => hk.2) (.string t543)) (fun _ hk => hk.2) (.slice Ao114 t544.length co114)) (fun _ h_ => h_.1))) hb); have n1_ := Aside0.mk (Kd.R_below (by (with_reducible repeat (first | apply Kd.R_alloc | apply Kd.R_drewN | apply Kd.R_drew)); exact (Kd.R_mono (Kd.R_far (p := ⟨gb548, 3, none⟩) (Kd.R_far (p := ⟨gb548, 2, none⟩) (Kd.R_far (p := ⟨gb548, 1, none⟩) (Kd.R_far (p := ⟨gb548, 0, none⟩) (Kd.R_types HO538.out BK548.out (by decide)) (fun _ hk => hk.2) (.slice Ao111 t539.length co111)) (fun _ hk => hk.2) (.string t542)) (fun _ hk => hk.2) (.string t543)) (fun _ hk => hk.2) (.slice Ao114 t544.length co114)) (fun _ h_ => h_.1))) hb); have n2_ := Aside0.mk (Kd.R_below (by (with_reducible repeat (first | apply Kd.R_alloc | apply Kd.R_drewN | apply Kd.R_drew)); exact (Kd.R_mono (Kd.R_far (p := ⟨gb548, 3, none⟩) (Kd.R_far (p := ⟨gb548, 2, none⟩) (Kd.R_far (p := ⟨gb548, 1, none⟩) (Kd.R_far (p := ⟨gb548, 0, none⟩) (Kd.R_types HO541.out BK548.out (by decide)) (fun _ hk => hk.2) (.slice Ao111 t539.length co111)) (fun _ hk => hk.2) (.string t542)) (fun _ hk => hk.2) (.string t543)) (fun _ hk => hk.2) (.slice Ao114 t544.length co114)) (fun _ h_ => h_.1))) hb); have n3_ := Aside0.mk (Kd.R_below (by (with_reducible repeat (first | apply Kd.R_alloc | apply Kd.R_drewN | apply Kd.R_drew)); exact (Kd.R_mono (Kd.R_far (p := ⟨gb548, 3, none⟩) (Kd.R_far (p := ⟨gb548, 2, none⟩) (Kd.R_far (p := ⟨gb548, 1, none⟩) (Kd.R_far (p := ⟨gb548, 0, none⟩) (Kd.R_types HO546.out BK548.out (by decide)) (fun _ hk => hk.2) (.slice Ao111 t539.length co111)) (fun _ hk => hk.2) (.string t542)) (fun _ hk => hk.2) (.string t543)) (fun _ hk => hk.2) (.slice Ao114 t544.length co114)) (fun _ h_ => h_.1))) hb); have n4_ := Aside0.mk (zM (g := gb528) (o := .cells #[.slice Ao106 x529000_1.length co106, .string (strOfNums y522), .string (strOfNums y525), .slice none 0 0] 25 (0, 0)) (by (with_reducible repeat (first | refine zG ?_ _ | refine zI ?_ | refine zF ?_ _)); refine blk_far ?_ NB528_548.out _; (with_reducible repeat (first | refine zG ?_ _ | refine zI ?_ | refine zF ?_ _)); refine blk_far ?_ NB528_548.out _; (with_reducible repeat (first | refine zG ?_ _ | refine zI ?_ | refine zF ?_ _)); refine blk_far ?_ NB528_548.out _; (with_reducible repeat (first | refine zG ?_ _ | refine zI ?_ | refine zF ?_ _)); refine blk_far ?_ NB528_548.out _; (with_reducible repeat (first | refine zG ?_ _ | refine zI ?_ | refine zF ?_ _)); exact BK528.out) hb); have n5_ := Aside0.mk (zM (g := gb548) (o := .cells #[.slice Ao111 t539.length co111, .string t542, .string t543, .slice Ao114 t544.length co114] 25 (0, 0)) (by (with_reducible repeat (first | refine zG ?_ _ | refine zI ?_ | refine zF ?_ _)); refine blk_put (cs := #[.slice Ao111 t539.length co111, .string t542, .string t543, .slice none 0 0]) ?_ 3 _ rfl; (with_reducible repeat (first | refine zG ?_ _ | refine zI ?_ | refine zF ?_ _)); refine blk_put (cs := #[.slice Ao111 t539.length co111, .string t542, .string (⟨#[]⟩ : ByteArray), .slice none 0 0]) ?_ 2 _ rfl; (with_reducible repeat (first | refine zG ?_ _ | refine zI ?_ | refine zF ?_ _)); refine blk_put (cs := #[.slice Ao111 t539.length co111, .string (⟨#[]⟩ : ByteArray), .string (⟨#[]⟩ : ByteArray), .slice none 0 0]) ?_ 1 _ rfl; (with_reducible repeat (first | refine zG ?_ _ | refine zI ?_ | refine zF ?_ _)); refine blk_put (cs := #[.slice none 0 0, .string (⟨#[]⟩ : ByteArray), .string (⟨#[]⟩ : ByteArray), .slice none 0 0]) ?_ 0 _ rfl; (with_reducible repeat (first | refine zG ?_ _ | refine zI ?_ | refine zF ?_ _)); exact BK548.out) hb); have n6_ := Aside0.mk (zL (by repeat (first | (with_reducible first | exact HB.out | apply zC | apply zA | apply zB | refine zE ?_ GE528.out | refine zE ?_ GE548.out) | exact HB.out)) hb); clear HO_529000; clear HO538; clear HO541; clear HO546; clear BK528; clear BK548; clear HB; have HO_529000 := n0_; have HO538 := n1_; have HO541 := n2_; have HO546 := n3_; have BK528 := n4_; have BK548 := n5_; have HB := n6_; clear n0_ n1_ n2_ n3_ n4_ n5_ n6_; (try clear hb); (try clear hb2); (try clear hk); (try clear hi)))
              go_ret
              exact ⟨by first | rfl | (simp [zO, zN] <;> rfl) | (simp only [← hji5, ← hji8]; first | rfl | (simp [zO, zN] <;> rfl)) | (simp [*, zO, zN] <;> rfl), by repeat (first | (with_reducible first | exact HB.out | apply zC | apply zA | apply zB | refine zE ?_ GE528.out | refine zE ?_ GE548.out) | exact HB.out)⟩
             ·
              rw [if_neg c104] at H
              have c104b0 : (t547 == 4) = false := beq_eq_false_iff_ne.mpr c104
              have c104b1 : (t547 != 4) = true := bne_iff_ne.mpr c104
              obtain rfl := Option.some.inj H
              exact absurd hrt (by decide)
            ·
             rw [if_neg c103] at H
             have c103b0 : (t551 == false) = false := by simpa using c103
             (try (have c103b1 : decide (t551 = false) = false := by simpa using c103))
             (try (have c103b2 : (t551 == false) = false := by simpa using c103))
             (try (have c103b3 : ¬ (t551 = false) := by simpa using c103))
             clear c103
             obtain rfl := Option.some.inj H
             exact absurd hrt (by decide)
           ·
            replace c101 := Bool.eq_false_iff.mpr c101
            subst c101
            have H1 : (some false) = some r := by rw [if_neg (show ¬ (false = true) by decide)] at H; exact H
            clear H
            have H := H1
            clear H1
            obtain rfl := Option.some.inj H
            exact absurd hrt (by decide)
    ·
     rw [if_neg c10] at H
     exact absurd H (by simp)
   ·
    rw [if_neg c9] at H
    exact absurd H (by simp)
  ·
   rw [if_neg c7] at H
   exact absurd H (by simp)
 ·
  rw [if_neg c6] at H
  exact absurd H (by simp)
end Go.Proofs.YtembjjombhfglaaDoor.G
