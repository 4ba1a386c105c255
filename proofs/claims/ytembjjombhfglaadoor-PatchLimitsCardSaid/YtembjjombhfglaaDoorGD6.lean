import Derived.Test.YtembjjombhfglaaDoorGD5
namespace Go.Proofs.YtembjjombhfglaaDoor.G
open Go.RowKit Go.Proofs.YtembjjombhfglaaDoorW.PrintWords Go.Proofs.YtembjjombhfglaaDoorW.PrintLast Go.Proofs.YtembjjombhfglaaDoorW.PrintMore
set_option linter.unusedVariables false
set_option linter.unusedSimpArgs false
theorem Hs.s {w : World} {g : Nat} {S : List Int} {v : Value} {m : Int} (h : Hs w g S v m) (k : Nat) : w.cell? ⟨g, k, none⟩ = (nums .u32 S ++ [v, .int .u64 m])[k]? := by
 rw [zD h]
 simp
theorem Hs.frozen {w : World} {g : Nat} {S : List Int} {v : Value} {m : Int} (h : Hs w g S v m) (k : Nat) : w.frozen? ⟨g, k, none⟩ = false := zH h k
theorem Hs.rest {w : World} {g : Nat} {S : List Int} {v : Value} {m : Int} (h : Hs w g S v m) (h8 : S.length = 8) : w.cell? ⟨g, 8, none⟩ = some v := by
 rw [h.s, List.getElem?_append_right (by simp [nums, h8])]
 simp [nums, h8]
theorem Hs.many {w : World} {g : Nat} {S : List Int} {v : Value} {m : Int} (h : Hs w g S v m) (h8 : S.length = 8) : w.cell? ⟨g, 9, none⟩ = some (.int .u64 m) := by
 rw [h.s, List.getElem?_append_right (by simp [nums, h8])]
 simp [nums, h8]
theorem Hs.below {w w' : World} {g B : Nat} {S : List Int} {v : Value} {m : Int} (h : Hs w g S v m) (hb : Below B w w') (hg : g < B) : Hs w' g S v m := (hb.block g hg).trans h
theorem Hs.setMany {w : World} {g : Nat} {S : List Int} {v : Value} {m : Int} (h : Hs w g S v m) (h8 : S.length = 8) (m' : Int) : Hs (w.setCell ⟨g, 9, none⟩ (.int .u64 m')) g S v m' := by
 refine (blk_set h 9 (.int .u64 m')).trans ?_
 obtain ⟨a, b, c, d, e, f, g', s, rfl⟩ := len8 h8
 rfl
theorem Hs.setRest {w : World} {g : Nat} {S : List Int} {v : Value} {m : Int} (h : Hs w g S v m) (h8 : S.length = 8) (v' : Value) : Hs (w.setCell ⟨g, 8, none⟩ v') g S v' m := by
 refine (blk_set h 8 v').trans ?_
 obtain ⟨a, b, c, d, e, f, g', s, rfl⟩ := len8 h8
 rfl
theorem Hs.store {w : World} {g : Nat} {S T : List Int} {v : Value} {m : Int} (h : Hs w g S v m) (h8 : S.length = 8) (hT : T.length = 8) : Hs (w.setRow g ((nums .u32 T).toArray.toList ++ (nums .u32 S ++ [v, .int .u64 m]).toArray.toList.drop (nums .u32 T).toArray.size).toArray) g T v m := by
 refine (setRow_heap w g _ _ 105 _ h).trans ?_
 obtain ⟨a, b, c, d, e, f, g', s, rfl⟩ := len8 h8
 obtain ⟨a, b, c, d, e, f, g', s, rfl⟩ := len8 hT
 rfl
theorem Hs.drawn {w : World} {g : Nat} {S : List Int} {v : Value} {m : Int} (h : Hs w g S v m) (d : Nat) : Hs { w with drawn := d } g S v m := h
theorem wp_region_hq {P : Program} {id : Nat} {Q : Exit → Act → World → Prop} {a : Act} {w : World} {l : List Oper} (n : Nat) (L : Array Bool) (hn : l.toArray.size = n) (hL : Array.replicate n false = L) (hm : P.follows .mixedOrders = true)
  (hQ : ∀ (d : Option Tmp) (v : Value) c a w, Q (.panic c) (a.put d v) w → Q (.panic c) a w)
  (h : ∀ (Q' : Exit → Act → World → Prop), Hid (∀ (d : Option Tmp) (v : Value) c a w, Q' (.panic c) (a.put d v) w → Q' (.panic c) a w) → Hid (Q' = Q) → wpAny P .any l.toArray Q' n L a w.drew) : (Code.region id l.toArray true).wp P Q a w := by
 subst hn
 subst hL
 exact wp_region_any hm (h Q (Lib.hid hQ) (Lib.hid rfl))
set_option maxHeartbeats 8000000 in
set_option maxRecDepth 100000 in
theorem write_calls (g : Nat) (S0 : List Int) (h8 : S0.length = 8) (A : Option Addr) (c : Nat) (l : List Int) (w : World) (hH : Hs w g S0 (.slice none 0 0) 0) (hc : l.length ≤ c) (hn : l.length ≤ 70368744177664)
  (hr : ∀ w', Below g w w' → Kd.C (Kd.int .u8) w' A l.length l) (hG : ∀ w', Below g w w' → GK w') :
  Calls Tryd.prog 49 #[.pointer (some ⟨g, 0, none⟩), .slice A l.length c] w fun e w' => e = .returned (.tuple #[]) ∧ ∃ v, Hs w' g (foldB S0 l) v l.length ∧ Kd.R (Kd.int .u8) 5 w' w.heap.size (fun _ => True) v (restB l) ∧ Below g w w' := by
 have hgw : g < w.heap.size := blk_lt hH
 have hm := hH.many h8
 have hf := hH.frozen 9
 have e0 : IntKind.u64.wrap (l.length : Int) = (l.length : Int) := by rw [IntKind.wrap_u64]; omega
 have e1 : IntKind.u64.wrap (0 + (l.length : Int)) = (l.length : Int) := by rw [IntKind.wrap_u64]; omega
 have hH1 := hH.setMany h8 (l.length : Int)
 have hB1 : Below g w (w.setCell ⟨g, 9, none⟩ (.int .u64 (l.length : Int))) := (Below.refl g w).setCell (p := ⟨g, 9, none⟩) (Nat.le_refl _) _
 have hrest := hH1.rest h8
 have HR := Lib.hid hr
 have HG := Lib.hid hG
 have HH1 := Lib.hid hH1
 have HB1 := Lib.hid hB1
 clear hr hG hH hH1 hB1
 go_enter Tryd.func49, Tryd.ntmps49
 go_wp2_with fail
 obtain ⟨w1, hw1⟩ : ∃ w1, w1 = w.setCell ⟨g, 9, none⟩ (.int .u64 (l.length : Int)) := ⟨_, rfl⟩
 have hsz : w1.heap.size = w.heap.size := by rw [hw1]; simp
 rw [← hw1] at HB1 HH1 hrest ⊢
 have hB2 : Below g w (w1.alloc (.cells #[.slice none 0 0, .slice A l.length c] 26)) := HB1.out.alloc (by rw [hsz]; omega) _
 have hnew := heap_alloc_new w1 (.cells #[.slice none 0 0, .slice A l.length c] 26)
 rw [hsz] at hnew
 refine (concat_calls A c l _ (HR.out _ hB2) hc hn w.heap.size (by rw [zD hnew]; rfl) (by rw [zD hnew]; rfl)).mono ?_
 rintro e w3 ⟨v4, rfl, hR4, hB4⟩
 have hsz2 : (w1.alloc (.cells #[.slice none 0 0, .slice A l.length c] 26)).heap.size = w.heap.size + 1 := by rw [World.size_alloc, hsz]
 have hB3 : Below g w w3 := hB2.trans (hB4.mono (by rw [hsz2]; omega))
 have hH3 : Hs w3 g S0 (.slice none 0 0) l.length := (HH1.out.below ((Below.refl w.heap.size w1).alloc (by rw [hsz]; omega) _) hgw).below (hB4.mono (B' := w.heap.size) (by rw [hsz2]; omega)) hgw
 have hR5 : Kd.R (Kd.int .u8) 5 w3 w.heap.size (fun k => g < k) v4 l := Kd.R_mono (Kd.R_bound (Kd.R_lower hR4 (by rw [hsz2]; omega))) (fun k hk => by have := hk.2.1; omega)
 obtain ⟨A4, c4, rfl, hc4, hC4⟩ := Kd.R_reads hR5
 have HR5 := Lib.hid hR5
 have HB3 := Lib.hid hB3
 have HH3 := Lib.hid hH3
 clear hR4 hB4 hB2 hnew hB3 hH3 hR5 hC4 hw1 hrest HB1 HH1 hm hf hsz hsz2
 go_wp2_with fail
 go_loopw [4] (fun v4 wr => ∃ (Ai : Option Addr) (ci : Nat) (rem S : List Int), v4 = .slice Ai rem.length ci ∧ rem.length ≤ ci ∧ (∀ w', Kd.C (Kd.int .u8) w' A4 l.length l → Kd.C (Kd.int .u8) w' Ai rem.length rem) ∧ S.length = 8 ∧ foldB S rem = foldB S0 l ∧ restB rem = restB l ∧ Hs wr g S (.slice none 0 0) l.length ∧ Below g w wr ∧ w.heap.size ≤ wr.heap.size ∧ Hid (Kd.R (Kd.int .u8) 5 wr w.heap.size (fun k => g < k) (.slice A4 l.length c4) l)) (fun v4 _ => match v4 with | .slice _ n _ => n | _ => 0)
 case atStart => exact ⟨A4, c4, l, S0, rfl, hc4, fun _ h => h, h8, rfl, rfl, HH3.out, HB3.out, HB3.out.size, HR5⟩
 case round =>
  clear HR5 HB3 HH3
  obtain ⟨Ai, ci, rem, S, rfl, hci, hsub, hS8, hfold, hrest, hHr, hBr, hsr, HRr⟩ := hrel
  have HSub := Lib.hid hsub
  have HFold := Lib.hid hfold
  have HRest := Lib.hid hrest
  have HHr := Lib.hid hHr
  have HBr := Lib.hid hBr
  clear hsub hfold hrest hHr hBr
  by_cases h64 : 64 ≤ rem.length
  ·
   obtain ⟨ad, rfl⟩ : ∃ ad, Ai = some ad := by
    obtain ⟨A', c', e1, _, hC⟩ := Kd.R_reads HRr.out
    injection e1 with e2 _ _
    subst e2
    obtain ⟨ad, e3, _⟩ := (HSub.out wr hC).2.2 (by omega)
    exact ⟨ad, e3⟩
   have hci64 : (64 : Int) ≤ (ci : Int) := by omega
   go_wp2_with fail
   refine wp_region_hq 11 #[false, false, false, false, false, false, false, false, false, false, false] (by kernel_rfl) (by kernel_rfl) (by kernel_rfl) (fun d v c a w h => by cases d <;> exact h) (fun Q' HQ' HQe => ?_)
   have hH2 : Hs wr.drew g S (.slice none 0 0) l.length := HHr.out
   have hB2 : Below wr.heap.size wr wr.drew := (Below.refl _ _).drew
   obtain ⟨w2, hw2⟩ : ∃ w2, w2 = wr.drew := ⟨_, rfl⟩
   rw [← hw2] at hH2 hB2 ⊢
   clear hw2
   refine wpAny_take (i := 0) (v := ?_) rfl (by kernel_rfl) (by kernel_rfl) (by kernel_rfl) (fun c a w h => HQ'.out _ _ c a w h) (Or.inl ⟨by rfl, ?_⟩) ?_
   rotate_left
   focus (intro w; go_simp; try with_reducible rfl)
   go_simp
   refine wpAny_take (i := 1) (v := ?_) rfl (by kernel_rfl) (by kernel_rfl) (by kernel_rfl) (fun c a w h => HQ'.out _ _ c a w h) (Or.inl ⟨by rfl, ?_⟩) ?_
   rotate_left
   focus (intro w; go_simp; try with_reducible rfl)
   go_simp
   refine wpAny_take (i := 2) (v := ?_) rfl (by kernel_rfl) (by kernel_rfl) (by kernel_rfl) (fun c a w h => HQ'.out _ _ c a w h) (Or.inl ⟨by rfl, ?_⟩) ?_
   rotate_left
   focus (intro w; go_simp; try with_reducible rfl)
   go_simp
   refine wpAny_take (i := 3) (v := ?_) rfl (by kernel_rfl) (by kernel_rfl) (by kernel_rfl) (fun c a w h => HQ'.out _ _ c a w h) (Or.inl ⟨by rfl, ?_⟩) ?_
   rotate_left
   focus (intro w; go_simp; try with_reducible rfl)
   go_simp
   refine wpAny_take (i := 5) (v := ?_) rfl (by kernel_rfl) (by kernel_rfl) (by kernel_rfl) (fun c a w h => HQ'.out _ _ c a w h) (Or.inl ⟨by rfl, ?_⟩) ?_
   rotate_left
   focus (intro w; go_simp; try with_reducible rfl)
   go_simp
   refine wpAny_take (i := 6) (v := ?_) rfl (by kernel_rfl) (by kernel_rfl) (by kernel_rfl) (fun c a w h => HQ'.out _ _ c a w h) (Or.inl ⟨by rfl, ?_⟩) ?_
   rotate_left
   focus (intro w; go_simp; try with_reducible rfl)
   go_simp
   refine wpAny_one 4 ?_ ?_ ?_ (fun K hK => ?_)
   focus kernel_rfl
   focus kernel_rfl
   focus simp
   simp only [List.getElem?_cons_succ, List.getElem?_cons_zero, Option.getD_some]
   refine wp_load_part 102 (Operand.tmp 28) rfl g 8 rfl 105 _ (0, 0) _ hH2 (by rfl) rfl size102 (by simp [nums, hS8]) (hK _ _ ?_)
   clear hK K
   rw [show ((nums .u32 S ++ [Value.slice none 0 0, .int .u64 (l.length : Int)]).toArray.toList.take 8).toArray = (nums .u32 S).toArray by rw [List.take_append_of_le_length (by simp [nums, hS8]), List.take_of_length_le (by simp [nums, hS8])]]
   have HH2 := Lib.hid hH2
   clear hH2
   refine wpAny_one 7 ?_ ?_ ?_ (fun K hK => ?_)
   focus kernel_rfl
   focus kernel_rfl
   focus simp
   simp only [List.getElem?_cons_succ, List.getElem?_cons_zero, Option.getD_some]
   go_simp
   have hR2 := Kd.R_below HRr.out hB2
   have hC2 : Kd.C (Kd.int .u8) w2 (some ad) (rem.take 64).length (rem.take 64) := by
    obtain ⟨A', c', e1, _, hC⟩ := Kd.R_reads hR2
    injection e1 with e2 _ _
    subst e2
    exact Kd.C_take (HSub.out w2 hC) h64
   have h64l : (rem.take 64).length = 64 := by rw [List.length_take]; omega
   have hbe := behind_calls S hS8 (some ad) ci (rem.take 64) w2 hC2 (by omega) h64l (HG.out w2 (HBr.out.trans (hB2.mono (by omega))))
   rw [h64l] at hbe
   refine hbe.mono ?_
   rintro e w5 ⟨rfl, hB5⟩
   have hH5 := HH2.out.below hB5 (blk_lt HH2.out)
   have hR5 := Kd.R_below hR2 hB5
   have HB5 := Lib.hid ((HBr.out.trans (hB2.mono (by omega))).trans (hB5.mono (by have := hB2.size; omega)))
   have hs5 : w.heap.size ≤ w5.heap.size := Nat.le_trans hsr (Nat.le_trans hB2.size hB5.size)
   have HR5 := Lib.hid hR5
   clear hbe hB5 hR5 hR2 hC2
   have hbl := behindP_length S (rem.take 64) hS8
   refine hK _ _ ?_
   clear hK K
   refine wpAny_take (i := 8) (v := ?_) rfl (by kernel_rfl) (by kernel_rfl) (by kernel_rfl) (fun c a w h => HQ'.out _ _ c a w h) (Or.inl ⟨by rfl, ?_⟩) ?_
   rotate_left
   focus (intro w; go_simp; try with_reducible rfl)
   go_simp
   refine wpAny_take (i := 9) (v := ?_) rfl (by kernel_rfl) (by kernel_rfl) (by kernel_rfl) (fun c a w h => HQ'.out _ _ c a w h) (Or.inl ⟨by rfl, ?_⟩) ?_
   rotate_left
   focus (intro w; go_simp; try with_reducible rfl)
   go_simp
   refine wpAny_one 10 ?_ ?_ ?_ (fun K hK => ?_)
   focus kernel_rfl
   focus kernel_rfl
   focus simp
   simp only [List.getElem?_cons_succ, List.getElem?_cons_zero, Option.getD_some]
   refine wp_store_part 102 (Operand.tmp 34) (Operand.tmp 32) rfl g (nums .u32 (behindP S (rem.take 64))).toArray rfl rfl 105 _ hH5 (size102.trans (by simp [nums, hbl])) (by simp [nums, hbl, hS8]) (by simp [nums, Value.oneCell']) (hK _ _ ?_)
   clear hK K
   refine wpAny_done (by kernel_rfl) ?_ _
   have hH6 := hH5.store hS8 hbl
   clear hH5
   obtain ⟨w6, hw6⟩ : ∃ w6, w6 = w5.setRow g ((nums .u32 (behindP S (rem.take 64))).toArray.toList ++ (nums .u32 S ++ [Value.slice none 0 0, .int .u64 (l.length : Int)]).toArray.toList.drop (nums .u32 (behindP S (rem.take 64))).toArray.size).toArray := ⟨_, rfl⟩
   have hB6 : Below g w5 w6 := by rw [hw6]; exact below_setRow (Below.refl _ _) (Nat.le_refl _) _
   have hR6 : Kd.R (Kd.int .u8) 5 w6 w.heap.size (fun k => g < k) (.slice A4 l.length c4) l := Kd.R_step HR5.out (fun k hk _ => by rw [hw6]; exact setRow_other w5 g k _ (by omega))
   have hs6 : w.heap.size ≤ w6.heap.size := by rw [hw6]; simpa using hs5
   rw [← hw6] at hH6 ⊢
   rw [HQe.out]
   clear HQe
   have HH6 := Lib.hid hH6
   have HB6 := Lib.hid (HB5.out.trans hB6)
   have HR6 := Lib.hid hR6
   clear hw6 hH6 hB6 hR6 HQ' HR5 HB5
   go_wp2_with fail
   go_roundw
   case rel =>
    refine ⟨if ci = 64 then some ad else some (ad.add 64), ci - 64, rem.drop 64, behindP S (rem.take 64), ?_, ?_, ?_, hbl, ?_, ?_, HH6.out, HB6.out, hs6, HR6⟩
    · rw [List.length_drop]; first | rfl | (split <;> rfl)
    · rw [List.length_drop]; omega
    ·
     intro w' hC'
     have := Kd.C_drop (HSub.out w' hC') h64 hci
     exact this
    · rw [foldB_step _ _ h64]; exact HFold.out
    · rw [restB_step _ h64]; exact HRest.out
   case measure => show rem.length - 64 < rem.length; omega
  ·
   have hn64 : ¬ ((64 : Int) ≤ (rem.length : Int)) := by omega
   have hrl : rem.length < 140737488355328 := by omega
   obtain ⟨A', c', e1, _, hC⟩ := Kd.R_reads HRr.out
   injection e1 with e2 _ _
   subst e2
   have hcl := clone_bytes.calls Ai ci rem rem wr (HSub.out wr hC) hci (by unfold clone_bytes.f; rw [if_pos hrl])
   have HCl := Lib.hid hcl
   clear hcl hC
   go_wp2_with fail
   refine HCl.out.mono ?_
   rintro e w5 ⟨v5, rfl, hR5, hB5⟩
   have hH5 := HHr.out.below hB5 (blk_lt HHr.out)
   have hcell := hH5.rest hS8
   have hfr := hH5.frozen 8
   have hH6 := hH5.setRest hS8 v5
   have HH6 := Lib.hid hH6
   have HR5 := Lib.hid hR5
   have HB5 := Lib.hid hB5
   obtain ⟨A5, c5, rfl, hc5, hC5⟩ := Kd.R_reads hR5
   clear hH5 hH6 hR5 hB5 hC5
   go_wp2_with fail
   go_end0
   refine ⟨rfl, .slice A5 rem.length c5, ?_, ?_, ?_⟩
   ·
    have h1 := HFold.out
    rw [foldB_small _ _ (by omega)] at h1
    rw [← h1]
    exact HH6.out
   ·
    have h1 := HRest.out
    rw [restB_small _ (by omega)] at h1
    rw [← h1]
    exact Kd.R_mono (Kd.R_far (p := ⟨g, 8, none⟩) (ok := fun k => k ≠ g) (Kd.R_mono (Kd.R_bound (Kd.R_lower HR5.out hsr)) (fun k hk => by have := hk.2.1; omega)) (fun k hk => hk) _) (fun _ _ => trivial)
   · exact (HBr.out.trans (HB5.out.mono (by omega))).setCell (p := ⟨g, 8, none⟩) (Nat.le_refl _) _
end Go.Proofs.YtembjjombhfglaaDoor.G
