import Derived.Test.YtembjjombhfglaaDoorGP2
namespace Go.Proofs.YtembjjombhfglaaDoor.G
open Go.RowKit Go.Proofs.YtembjjombhfglaaDoorW.PrintWords Go.Proofs.YtembjjombhfglaaDoorW.PrintLast Go.Proofs.YtembjjombhfglaaDoorW.PrintMore
attribute [local go_sem] max2_int min2_int max_two min_two max_three min_three max_four min_four
set_option linter.unusedVariables false
set_option linter.unusedSimpArgs false
theorem tkN_nonneg (n x : Int) (i : Nat) : 0 ≤ tkN n x i := by
 unfold tkN Go.bits
 rw [IntKind.wrap_u64]
 omega
theorem takeL_nonneg (l : List Int) : ∀ (k i : Nat) (n : Int), 0 ≤ (takeL l k i n).1
 | 0, i, n => by unfold takeL; split <;> simp
 | k + 1, i, n => by
  unfold takeL
  split
  · exact takeL_nonneg l k (i + 1) _
  ·
   split
   · simp
   · exact tkN_nonneg _ _ _
theorem takeF_nonneg (l : List Int) : 0 ≤ (takeF l).1 := takeL_nonneg l _ _ _
def textR (m : Int) (l : List Int) (f : Int) : List Int × List Int × Int :=
 if f = 0 then
  (if (takeF l).2.2 = 0 then
   (if (takeF l).1 > m then ([], l, 4)
    else if (takeF l).1 > ((l.length - (takeF l).2.1 : Nat) : Int) then ([], l, 2)
    else ((l.drop (takeF l).2.1).take (takeF l).1.toNat, l.drop ((takeF l).2.1 + (takeF l).1.toNat), 0))
   else ([], l, (takeF l).2.2))
 else ([], l, f)
set_option maxHeartbeats 8000000 in
set_option maxRecDepth 100000 in
theorem text1_calls (w0 w : World) (g p pl q : Nat) (m : Nat) (hm : m ≤ 1000000) (hm0 : 0 < m) (l : List Int) (hR : Rdr w0 w g l 0) (hp : w.heap[p]? = some (.cells #[.pointer (some ⟨g, 0, none⟩)] 54 (0, 0)))
  (hl : w.heap[pl]? = some (.cells #[.int .i64 (m : Int)] 3 (0, 0))) (hq : w.heap[q]? = some (.cells #[.slice none 0 0] 26 (0, 0))) (hll : l.length < 140737488355328)
  (hgp : g ≠ p) (hgl : g ≠ pl) (hgq : g ≠ q) (hpq : p ≠ q) (hlq : pl ≠ q) (hpl : p ≠ pl) (hq0 : w0.heap.size ≤ q) :
  Calls Tryd.prog 60 #[.pointer (some ⟨p, 0, none⟩), .pointer (some ⟨pl, 0, none⟩), .pointer (some ⟨q, 0, none⟩)] w fun e w' => e = .returned (.int .i64 (textR m l 0).2.2) ∧ Rdr w0 w' g (if (textR m l 0).2.2 = 0 then (textR m l 0).2.1 else l) 0 ∧
   (∃ A c, w'.heap[q]? = some (.cells #[.slice A (textR m l 0).1.length c] 26 (0, 0)) ∧ (textR m l 0).1.length ≤ c ∧ Kd.F (Kd.int .u8) w' (fun b => b ≠ g ∧ b ≠ q) A (textR m l 0).1.length (textR m l 0).1) ∧ Kept w w' (fun b => b = g ∨ b = q) := by
 obtain ⟨A, c, h1, h2, h3⟩ := hR.ex
 have c1 := zD h1 0
 have c3 := zD hp 0
 have c4 := zD hl 0
 simp only [List.getElem?_toArray, List.getElem?_cons_zero, List.getElem?_cons_succ] at c1 c3 c4
 have H1 := Lib.hid h1
 have HP := Lib.hid hp
 have HQ := Lib.hid hq
 have HL := Lib.hid hl
 have HR := Lib.hid hR
 have H3 := Lib.hid h3
 obtain ⟨n, hn⟩ : ∃ n, n = (takeF l).1 := ⟨_, rfl⟩
 obtain ⟨k, hk⟩ : ∃ n, n = (takeF l).2.1 := ⟨_, rfl⟩
 obtain ⟨e, he⟩ : ∃ n, n = (takeF l).2.2 := ⟨_, rfl⟩
 have hkl : k ≤ l.length := by rw [hk]; exact takeF_le l
 have hn0 : 0 ≤ n := by rw [hn]; exact takeF_nonneg l
 have HT := Lib.hid (fun (w1 : World) (hb : Below w.heap.size w w1) => take_calls A c l w1 (Kd.C_below h3 (hR.bel.trans (hb.mono hR.bel.size))) h2)
 rw [← hn, ← hk, ← he] at HT
 obtain ⟨res, hres⟩ : ∃ r, r = textR (m : Int) l 0 := ⟨_, rfl⟩
 rw [← hres]
 have hres2 := hres
 unfold textR at hres2
 rw [if_pos rfl, ← hn, ← hk, ← he] at hres2
 have HRES := Lib.hid hres2
 obtain ⟨t1, ht1⟩ : ∃ x, x = res.1 := ⟨_, rfl⟩
 obtain ⟨t3, ht3⟩ : ∃ x, x = res.2.2 := ⟨_, rfl⟩
 obtain ⟨L', hL'⟩ : ∃ x, x = (if res.2.2 = 0 then res.2.1 else l) := ⟨_, rfl⟩
 rw [← hL', ← ht1, ← ht3]
 have HT1 := Lib.hid ht1
 have HT3 := Lib.hid ht3
 have HL' := Lib.hid hL'
 clear ht1 ht3 hL'
 clear hres hres2 hn hk he h1 hp hq hl hR h3
 by_cases he0 : e = 0
 ·
  have he1 : (e != 0) = false := by simp [he0]
  have HE0 := Lib.hid he0
  clear he0
  by_cases hn1 : (m : Int) < n
  ·
   have HN1 := Lib.hid hn1
   go_enter Tryd.func60, Tryd.ntmps60
   go_wp2_with fail
   refine (HT.out w (Below.refl _ _)).mono ?_
   rintro e w1 ⟨rfl, hb⟩
   have k1 := (hb.block g (blk_lt H1.out)).trans H1.out
   have kp := (hb.block p (blk_lt HP.out)).trans HP.out
   have kl := (hb.block pl (blk_lt HL.out)).trans HL.out
   have kq := (hb.block q (blk_lt HQ.out)).trans HQ.out
   have d1 := zD k1 0
   have d3 := zD kp 0
   have d4 := zD kl 0
   simp only [List.getElem?_toArray, List.getElem?_cons_zero, List.getElem?_cons_succ] at d1 d3 d4
   have HB := Lib.hid hb
   have K1 := Lib.hid k1
   have KP := Lib.hid kp
   have KQ := Lib.hid kq
   clear hb c1 c3 c4 k1 kp kl kq
   go_wp2_with fail
   go_ret
   have hres := HRES.out
   rw [if_pos HE0.out, if_pos HN1.out] at hres
   rw [HT1.out, HT3.out, HL'.out, hres]
   exact ⟨rfl, HR.out.kept HB.out, ⟨none, 0, KQ.out, Nat.le_refl _, Kd.F_nil (Kd.int .u8) _ _⟩, Kept.of_below HB.out _⟩
  ·
   have hmn : n ≤ (m : Int) := by omega
   have HN1 := Lib.hid hn1
   clear hn1
   by_cases hn2 : ((l.length - k : Nat) : Int) < n
   ·
    have HN2 := Lib.hid hn2
    have hn2' : (l.length : Int) - (k : Int) < n := by omega
    clear hn2
    go_enter Tryd.func60, Tryd.ntmps60
    go_wp2_with fail
    refine (HT.out w (Below.refl _ _)).mono ?_
    rintro e w1 ⟨rfl, hb⟩
    have k1 := (hb.block g (blk_lt H1.out)).trans H1.out
    have kp := (hb.block p (blk_lt HP.out)).trans HP.out
    have kl := (hb.block pl (blk_lt HL.out)).trans HL.out
    have kq := (hb.block q (blk_lt HQ.out)).trans HQ.out
    have d1 := zD k1 0
    have d3 := zD kp 0
    have d4 := zD kl 0
    simp only [List.getElem?_toArray, List.getElem?_cons_zero, List.getElem?_cons_succ] at d1 d3 d4
    have HB := Lib.hid hb
    have K1 := Lib.hid k1
    have KP := Lib.hid kp
    have KQ := Lib.hid kq
    clear hb c1 c3 c4 k1 kp kl kq
    go_wp2_with fail
    go_ret
    have hres := HRES.out
    rw [if_pos HE0.out, if_neg (Int.not_lt.mpr HN1.out), if_pos HN2.out] at hres
    rw [HT1.out, HT3.out, HL'.out, hres]
    exact ⟨rfl, HR.out.kept HB.out, ⟨none, 0, KQ.out, Nat.le_refl _, Kd.F_nil (Kd.int .u8) _ _⟩, Kept.of_below HB.out _⟩
   ·
    have HN2 := Lib.hid hn2
    have hn2' : ¬ (l.length : Int) - (k : Int) < n := by omega
    obtain ⟨N, rfl⟩ := Int.eq_ofNat_of_zero_le hn0
    clear hn2
    obtain ⟨i05, hi05, _, hsz5, _⟩ := info_parts info5
    have hNl : k + N ≤ l.length := by have h := hn2'; omega
    have hcut := cut_mid (P := Tryd.prog) 26 5 .i64 .i64 Tryd.underlying26 hi05 1 hsz5 A l.length c (k : Int) ((k : Int) + (N : Int)) (by omega) (by omega) (by omega) h2
    rw [show ((k : Int) + (N : Int)).toNat = k + N by omega, Int.toNat_natCast, show k + N - k = N by omega] at hcut
    have hcut2 := cut_from (P := Tryd.prog) 26 5 .i64 Tryd.underlying26 hi05 1 hsz5 A l.length c ((k : Int) + (N : Int)) (by omega) (by omega)
    rw [show ((k : Int) + (N : Int)).toNat = k + N by omega] at hcut2
    obtain ⟨B, hB⟩ : ∃ B, B = (if c = k then A else A.map (·.add (k * 1))) := ⟨_, rfl⟩
    rw [← hB] at hcut
    obtain ⟨X, hX⟩ : ∃ X, X = (l.take (k + N)).drop k := ⟨_, rfl⟩
    have hXl : X.length = N := by rw [hX, List.length_drop, List.length_take]; omega
    have hCX : Kd.C (Kd.int .u8) w0 B X.length X := by rw [hB, hX]; exact Kd.C_mid H3.out (by omega) hNl h2
    obtain ⟨B2, hB2⟩ : ∃ B, B = (if c = k + N then A else A.map (·.add ((k + N) * 1))) := ⟨_, rfl⟩
    rw [← hB2] at hcut2
    have hCB2 : Kd.C (Kd.int .u8) w0 B2 (l.drop (k + N)).length (l.drop (k + N)) := by rw [hB2]; exact Kd.C_drop H3.out hNl h2
    have HX := Lib.hid hCX
    have HXl := Lib.hid hXl
    have HXX := Lib.hid hX
    have HCB2 := Lib.hid hCB2
    clear hi05 hsz5 hB hX hXl hCX hB2 hCB2
    go_enter Tryd.func60, Tryd.ntmps60
    go_wp2_with fail
    refine (HT.out w (Below.refl _ _)).mono ?_
    rintro e w1 ⟨rfl, hb⟩
    have k1 := (hb.block g (blk_lt H1.out)).trans H1.out
    have kp := (hb.block p (blk_lt HP.out)).trans HP.out
    have kl := (hb.block pl (blk_lt HL.out)).trans HL.out
    have kq := (hb.block q (blk_lt HQ.out)).trans HQ.out
    have d1 := zD k1 0
    have d3 := zD kp 0
    have d4 := zD kl 0
    simp only [List.getElem?_toArray, List.getElem?_cons_zero, List.getElem?_cons_succ] at d1 d3 d4
    have HB := Lib.hid hb
    have K1 := Lib.hid k1
    have KP := Lib.hid kp
    have KQ := Lib.hid kq
    clear hb c1 c3 c4 k1 kp kl kq
    go_wp2_with fail
    refine start_ (n := 19) (S := (fun w' => w'.cell? ⟨p, 0, none⟩ = some (.pointer (some ⟨g, 0, none⟩)) ∧ w'.cell? ⟨g, 0, none⟩ = some (.slice A l.length c))) (ds := [18]) #[false, false, false, false, false, false, false, false, false, false, false, false, false, false, false, false, false, false, false] (by kernel_rfl) rfl rfl ⟨d3, d1⟩ (fun hHeld => ?_)
    obtain ⟨wd, hwd⟩ : ∃ x, x = w1.drew := ⟨_, rfl⟩
    rw [← hwd] at hHeld ⊢
    have J1 : wd.heap[g]? = some (.cells #[.slice A l.length c, .int .i64 0] 79 (0, 0)) := by rw [hwd]; exact K1.out
    have JP : wd.heap[p]? = some (.cells #[.pointer (some ⟨g, 0, none⟩)] 54 (0, 0)) := by rw [hwd]; exact KP.out
    have JQ : wd.heap[q]? = some (.cells #[.slice none 0 0] 26 (0, 0)) := by rw [hwd]; exact KQ.out
    have HB2 : Hid (Below w.heap.size w wd) := Lib.hid (by rw [hwd]; exact HB.out.trans ⟨rfl, rfl, rfl, Nat.le_refl _, fun _ _ => rfl⟩)
    clear hwd K1 KP KQ HB d1 d3 d4
    have hcl := clone_bytes.calls B (c - k) X X wd (Kd.C_below HX.out (HR.out.bel.trans (HB2.out.mono HR.out.bel.size))) (by rw [HXl.out]; omega) (by unfold clone_bytes.f; rw [if_pos (by rw [HXl.out]; omega)])
    rw [HXl.out] at hcl
    have HCL := Lib.hid hcl
    clear hcl
    refine take_ (i := 0) (N := some 42) (v := ?_) (a' := ?_) #[true, false, false, false, false, false, false, false, false, false, false, false, false, false, false, false, false, false, false] rfl rfl (by kernel_rfl) (fun _ _ _ h => h) (Or.inl ⟨by rfl, ?_⟩) hHeld ?_ ?_
    rotate_left
    ·
     rintro w' ⟨s0, s1⟩
     go_simp
     with_reducible rfl
    rotate_left
    ·
     simp only [Act.put, List.setIfInBounds_toArray, List.set_cons_zero, List.set_cons_succ, i64_w, i32_w]
     rfl
    refine take_ (i := 1) (N := some 43) (v := ?_) (a' := ?_) #[true, true, false, false, false, false, false, false, false, false, false, false, false, false, false, false, false, false, false] rfl rfl (by kernel_rfl) (fun _ _ _ h => h) (Or.inl ⟨by rfl, ?_⟩) hHeld ?_ ?_
    rotate_left
    ·
     rintro w' ⟨s0, s1⟩
     go_simp
     with_reducible rfl
    rotate_left
    ·
     simp only [Act.put, List.setIfInBounds_toArray, List.set_cons_zero, List.set_cons_succ, i64_w, i32_w]
     rfl
    refine pure_ (i := 2) (N := some 44) (v := ?_) (a' := ?_) #[true, true, true, false, false, false, false, false, false, false, false, false, false, false, false, false, false, false, false] rfl rfl (by kernel_rfl) (fun _ _ _ h => h) (Or.inl ⟨by rfl, ?_⟩) ?_ ?_
    rotate_left
    ·
     intro w'
     go_simp
     with_reducible rfl
    rotate_left
    ·
     simp only [Act.put, List.setIfInBounds_toArray, List.set_cons_zero, List.set_cons_succ, i64_w, i32_w]
     rfl
    refine pure_ (i := 3) (N := some 45) (v := ?_) (a' := ?_) #[true, true, true, true, false, false, false, false, false, false, false, false, false, false, false, false, false, false, false] rfl rfl (by kernel_rfl) (fun _ _ _ h => h) (Or.inl ⟨by rfl, ?_⟩) ?_ ?_
    rotate_left
    ·
     intro w'
     go_simp
     with_reducible rfl
    rotate_left
    ·
     simp only [Act.put, List.setIfInBounds_toArray, List.set_cons_zero, List.set_cons_succ, i64_w, i32_w]
     rfl
    refine take_ (i := 4) (N := some 46) (v := ?_) (a' := ?_) #[true, true, true, true, true, false, false, false, false, false, false, false, false, false, false, false, false, false, false] rfl rfl (by kernel_rfl) (fun _ _ _ h => h) (Or.inl ⟨by rfl, ?_⟩) hHeld ?_ ?_
    rotate_left
    ·
     rintro w' ⟨s0, s1⟩
     go_simp
     with_reducible rfl
    rotate_left
    ·
     simp only [Act.put, List.setIfInBounds_toArray, List.set_cons_zero, List.set_cons_succ, i64_w, i32_w]
     rfl
    refine pure_ (i := 5) (N := some 47) (v := ?_) (a' := ?_) #[true, true, true, true, true, true, false, false, false, false, false, false, false, false, false, false, false, false, false] rfl rfl (by kernel_rfl) (fun _ _ _ h => h) (Or.inl ⟨by rfl, ?_⟩) ?_ ?_
    rotate_left
    ·
     intro w'
     go_simp
     with_reducible rfl
    rotate_left
    ·
     simp only [Act.put, List.setIfInBounds_toArray, List.set_cons_zero, List.set_cons_succ, i64_w, i32_w]
     rfl
    refine pure_ (i := 6) (N := some 48) (v := ?_) (a' := ?_) #[true, true, true, true, true, true, true, false, false, false, false, false, false, false, false, false, false, false, false] rfl rfl (by kernel_rfl) (fun _ _ _ h => h) (Or.inl ⟨by rfl, ?_⟩) ?_ ?_
    rotate_left
    ·
     intro w'
     go_simp
     with_reducible rfl
    rotate_left
    ·
     simp only [Act.put, List.setIfInBounds_toArray, List.set_cons_zero, List.set_cons_succ, i64_w, i32_w]
     rfl
    refine pure_ (i := 7) (N := some 49) (v := ?_) (a' := ?_) #[true, true, true, true, true, true, true, true, false, false, false, false, false, false, false, false, false, false, false] rfl rfl (by kernel_rfl) (fun _ _ _ h => h) (Or.inl ⟨by rfl, ?_⟩) ?_ ?_
    rotate_left
    ·
     intro w'
     go_simp
     with_reducible rfl
    rotate_left
    ·
     simp only [Act.put, List.setIfInBounds_toArray, List.set_cons_zero, List.set_cons_succ, i64_w, i32_w]
     rfl
    refine take_ (i := 9) (N := some 51) (v := ?_) (a' := ?_) #[true, true, true, true, true, true, true, true, false, true, false, false, false, false, false, false, false, false, false] rfl rfl (by kernel_rfl) (fun _ _ _ h => h) (Or.inl ⟨by rfl, ?_⟩) hHeld ?_ ?_
    rotate_left
    ·
     rintro w' ⟨s0, s1⟩
     go_simp
     with_reducible rfl
    rotate_left
    ·
     simp only [Act.put, List.setIfInBounds_toArray, List.set_cons_zero, List.set_cons_succ, i64_w, i32_w]
     rfl
    refine pure_ (i := 10) (N := some 52) (v := ?_) (a' := ?_) #[true, true, true, true, true, true, true, true, false, true, true, false, false, false, false, false, false, false, false] rfl rfl (by kernel_rfl) (fun _ _ _ h => h) (Or.inl ⟨by rfl, ?_⟩) ?_ ?_
    rotate_left
    ·
     intro w'
     go_simp
     with_reducible rfl
    rotate_left
    ·
     simp only [Act.put, List.setIfInBounds_toArray, List.set_cons_zero, List.set_cons_succ, i64_w, i32_w]
     rfl
    refine pure_ (i := 11) (N := some 53) (v := ?_) (a' := ?_) #[true, true, true, true, true, true, true, true, false, true, true, true, false, false, false, false, false, false, false] rfl rfl (by kernel_rfl) (fun _ _ _ h => h) (Or.inl ⟨by rfl, ?_⟩) ?_ ?_
    rotate_left
    ·
     intro w'
     go_simp
     with_reducible rfl
    rotate_left
    ·
     simp only [Act.put, List.setIfInBounds_toArray, List.set_cons_zero, List.set_cons_succ, i64_w, i32_w]
     rfl
    refine take_ (i := 12) (N := some 54) (v := ?_) (a' := ?_) #[true, true, true, true, true, true, true, true, false, true, true, true, true, false, false, false, false, false, false] rfl rfl (by kernel_rfl) (fun _ _ _ h => h) (Or.inl ⟨by rfl, ?_⟩) hHeld ?_ ?_
    rotate_left
    ·
     rintro w' ⟨s0, s1⟩
     go_simp
     with_reducible rfl
    rotate_left
    ·
     simp only [Act.put, List.setIfInBounds_toArray, List.set_cons_zero, List.set_cons_succ, i64_w, i32_w]
     rfl
    refine pure_ (i := 13) (N := some 55) (v := ?_) (a' := ?_) #[true, true, true, true, true, true, true, true, false, true, true, true, true, true, false, false, false, false, false] rfl rfl (by kernel_rfl) (fun _ _ _ h => h) (Or.inl ⟨by rfl, ?_⟩) ?_ ?_
    rotate_left
    ·
     intro w'
     go_simp
     with_reducible rfl
    rotate_left
    ·
     simp only [Act.put, List.setIfInBounds_toArray, List.set_cons_zero, List.set_cons_succ, i64_w, i32_w]
     rfl
    refine pure_ (i := 14) (N := some 56) (v := ?_) (a' := ?_) #[true, true, true, true, true, true, true, true, false, true, true, true, true, true, true, false, false, false, false] rfl rfl (by kernel_rfl) (fun _ _ _ h => h) (Or.inl ⟨by rfl, ?_⟩) ?_ ?_
    rotate_left
    ·
     intro w'
     go_simp
     with_reducible rfl
    rotate_left
    ·
     simp only [Act.put, List.setIfInBounds_toArray, List.set_cons_zero, List.set_cons_succ, i64_w, i32_w]
     rfl
    refine one_ (i := 8) (N := some 50) #[true, true, true, true, true, true, true, true, true, true, true, true, true, true, true, false, false, false, false] rfl rfl (by kernel_rfl) (by decide) (fun K hK => ?_)
    refine goes_ Tryd.func43 (by kernel_rfl) rfl #[.slice B N (c - k)] (by rfl) rfl rfl (by simp only [List.map_toArray, List.map_cons, List.map_nil]; first | rfl | (simp only [Act.eval]; rfl)) ?_
    refine HCL.out.mono ?_
    rintro e w2 ⟨v, rfl, hv, hb⟩
    refine ⟨_, rfl, ?_⟩
    obtain ⟨A2, c2, rfl, hc2, hC2⟩ := Kd.R_reads hv
    have m1 := (hb.block g (blk_lt J1)).trans J1
    have mp := (hb.block p (blk_lt JP)).trans JP
    have mq := (hb.block q (blk_lt JQ)).trans JQ
    have n1 := zD m1 0
    have np := zD mp 0
    have nq' := zD mq 0
    have fq := zH mq 0
    have m1' := blk_far m1 (p := ⟨q, 0, none⟩) hgq (.slice A2 X.length c2)
    have mp' := blk_far mp (p := ⟨q, 0, none⟩) hpq (.slice A2 X.length c2)
    have n1' := zD m1' 0
    have np' := zD mp' 0
    have f1' := zH m1' 0
    simp only [List.getElem?_toArray, List.getElem?_cons_zero, List.getElem?_cons_succ] at n1 np nq' n1' np'
    have M1 := Lib.hid m1
    have MQ := Lib.hid mq
    have M1' := Lib.hid m1'
    have HV := Lib.hid hv
    have HB3 := Lib.hid hb
    clear m1 mp mq m1' mp' hv hb hC2
    refine hK.out _ _ ⟨np, n1⟩ (fun hHeld2 => ?_)
    clear hK K
    refine norm_ (a' := ?_) ?_ ?_
    rotate_left
    ·
     show Act.put _ (some 50) _ = _
     simp only [Act.put, List.setIfInBounds_toArray, List.set_cons_zero, List.set_cons_succ, i64_w, i32_w]
     rfl
    refine one_ (i := 15) (N := none) #[true, true, true, true, true, true, true, true, true, true, true, true, true, true, true, true, false, false, false] rfl rfl (by kernel_rfl) (by decide) (fun K hK => ?_)
    refine skip_ (w1 := ?_) (by rfl) rfl ?_ ?_
    rotate_left
    ·
     go_simp
     rfl
    refine hK.out _ _ ⟨np', n1'⟩ (fun hHeld3 => ?_)
    clear hK K
    refine pure_ (i := 16) (N := some 57) (v := ?_) (a' := ?_) #[true, true, true, true, true, true, true, true, true, true, true, true, true, true, true, true, true, false, false] rfl rfl (by kernel_rfl) (fun _ _ _ h => h) (Or.inl ⟨by rfl, ?_⟩) ?_ ?_
    rotate_left
    ·
     intro w'
     go_simp
     with_reducible rfl
    rotate_left
    ·
     simp only [Act.put, List.setIfInBounds_toArray, List.set_cons_zero, List.set_cons_succ, i64_w, i32_w]
     rfl
    refine pure_ (i := 17) (N := some 58) (v := ?_) (a' := ?_) #[true, true, true, true, true, true, true, true, true, true, true, true, true, true, true, true, true, true, false] rfl rfl (by kernel_rfl) (fun _ _ _ h => h) (Or.inl ⟨by rfl, ?_⟩) ?_ ?_
    rotate_left
    ·
     intro w'
     go_simp
     with_reducible rfl
    rotate_left
    ·
     simp only [Act.put, List.setIfInBounds_toArray, List.set_cons_zero, List.set_cons_succ, i64_w, i32_w]
     rfl
    refine last_ (i := 18) (N := none) #[true, true, true, true, true, true, true, true, true, true, true, true, true, true, true, true, true, true, true] rfl rfl (by kernel_rfl) (by decide) (fun K hK => ?_)
    refine skip_ (w1 := ?_) (by rfl) rfl ?_ ?_
    rotate_left
    ·
     go_simp
     rfl
    refine hK.out _ _ ?_
    clear hK K
    refine done_ (by kernel_rfl) ?_
    go_wp2_with fail
    go_ret
    have hres := HRES.out
    rw [if_pos HE0.out, if_neg (Int.not_lt.mpr HN1.out), if_neg (Int.not_lt.mpr HN2.out)] at hres
    rw [HT1.out, HT3.out, HL'.out, hres, if_pos (show (([] : List Int), l, (0 : Int)).snd.snd = 0 from rfl)]
    have hXe : (l.drop k).take N = X := by rw [HXX.out, List.drop_take, show k + N - k = N by omega]
    have e2 : ((w2.setCell ⟨q, 0, none⟩ (.slice A2 X.length c2)).setCell ⟨g, 0, none⟩ (.slice B2 (l.length - (k + N)) (c - (k + N)))).heap[g]? = some (.cells #[.slice B2 (l.length - (k + N)) (c - (k + N)), .int .i64 0] 79 (0, 0)) := blk_set M1'.out 0 _
    have e1 : (w2.setCell ⟨q, 0, none⟩ (.slice A2 X.length c2)).heap[q]? = some (.cells #[.slice A2 X.length c2] 26 (0, 0)) := blk_set MQ.out 0 _
    have hb2 : Below w0.heap.size w0 wd := HR.out.bel.trans (HB2.out.mono HR.out.bel.size)
    have hb3 : Below w0.heap.size w0 w2 := hb2.trans (HB3.out.mono hb2.size)
    have hgd : g < wd.heap.size := blk_lt J1
    have hqd : q < wd.heap.size := blk_lt JQ
    have hv1 := Kd.R_far (Kd.R_far (Kd.R_bound HV.out) (p := ⟨q, 0, none⟩) (fun k hk => by have := hk.2.1; show k ≠ q; omega) (.slice A2 X.length c2)) (p := ⟨g, 0, none⟩) (fun k hk => by have := hk.2.1; show k ≠ g; omega) (.slice B2 (l.length - (k + N)) (c - (k + N)))
    have hv2 := Kd.R_reads' hv1
    simp only [Int.toNat_natCast, hXe]
    refine ⟨rfl, ⟨⟨B2, c - (k + N), by rw [List.length_drop]; exact e2, by rw [List.length_drop]; omega, HCB2.out⟩, HR.out.ge, (hb3.setCell hq0 _).setCell HR.out.ge _⟩, ⟨A2, c2, blk_far e1 (p := ⟨g, 0, none⟩) (fun h => hgq h.symm) _, hv2.2.1, Kd.F_mono (Kd.R_F hv1) (fun b hb => ⟨by have := hb.2.1; omega, by have := hb.2.1; omega⟩)⟩, (((Kept.of_below HB2.out _).below HB3.out).setCell (.inl (.inr rfl)) _).setCell (.inl (.inl rfl)) _⟩
 ·
  have he1 : (e != 0) = true := bne_iff_ne.mpr he0
  have HE0 := Lib.hid he0
  clear he0
  go_enter Tryd.func60, Tryd.ntmps60
  go_wp2_with fail
  refine (HT.out w (Below.refl _ _)).mono ?_
  rintro e w1 ⟨rfl, hb⟩
  have k1 := (hb.block g (blk_lt H1.out)).trans H1.out
  have kp := (hb.block p (blk_lt HP.out)).trans HP.out
  have kl := (hb.block pl (blk_lt HL.out)).trans HL.out
  have kq := (hb.block q (blk_lt HQ.out)).trans HQ.out
  have d1 := zD k1 0
  have d3 := zD kp 0
  have d4 := zD kl 0
  simp only [List.getElem?_toArray, List.getElem?_cons_zero, List.getElem?_cons_succ] at d1 d3 d4
  have HB := Lib.hid hb
  have K1 := Lib.hid k1
  have KP := Lib.hid kp
  have KQ := Lib.hid kq
  clear hb c1 c3 c4 k1 kp kl kq
  go_wp2_with fail
  go_ret
  have hres := HRES.out
  rw [if_neg HE0.out] at hres
  rw [HT1.out, HT3.out, HL'.out, hres, if_neg (show ¬ (([] : List Int), l, e).snd.snd = 0 from HE0.out)]
  exact ⟨rfl, HR.out.kept HB.out, ⟨none, 0, KQ.out, Nat.le_refl _, Kd.F_nil (Kd.int .u8) _ _⟩, Kept.of_below HB.out _⟩
theorem textR_back (m : Int) (l : List Int) (h : (textR m l 0).2.2 ≠ 0) : (textR m l 0).2.1 = l := by
 unfold textR at h ⊢
 rw [if_pos rfl] at h ⊢
 by_cases h1 : (takeF l).2.2 = 0
 ·
  rw [if_pos h1] at h ⊢
  by_cases h2 : (takeF l).1 > m
  · rw [if_pos h2]
  ·
   rw [if_neg h2] at h ⊢
   by_cases h3 : (takeF l).1 > ((l.length - (takeF l).2.1 : Nat) : Int)
   · rw [if_pos h3]
   ·
    rw [if_neg h3] at h
    exact absurd rfl h
 · rw [if_neg h1]
set_option maxHeartbeats 8000000 in
set_option maxRecDepth 100000 in
theorem trytext_calls (w0 w : World) (g p pl q : Nat) (m : Nat) (hm : m ≤ 1000000) (hm0 : 0 < m) (l : List Int) (hR : Rdr w0 w g l 0) (hp : w.heap[p]? = some (.cells #[.pointer (some ⟨g, 0, none⟩)] 54 (0, 0)))
  (hl : w.heap[pl]? = some (.cells #[.int .i64 (m : Int)] 3 (0, 0))) (hq : w.heap[q]? = some (.cells #[.slice none 0 0] 26 (0, 0))) (hll : l.length < 140737488355328)
  (hgp : g ≠ p) (hgl : g ≠ pl) (hgq : g ≠ q) (hpq : p ≠ q) (hlq : pl ≠ q) (hpl : p ≠ pl) (hq0 : w0.heap.size ≤ q) :
  Calls Tryd.prog 59 #[.pointer (some ⟨g, 0, none⟩), .func (.func 60) #[] #[.pointer (some ⟨p, 0, none⟩), .pointer (some ⟨pl, 0, none⟩), .pointer (some ⟨q, 0, none⟩)]] w fun e w' => e = .returned (.tuple #[]) ∧ Rdr w0 w' g (textR m l 0).2.1 (textR m l 0).2.2 ∧
   (∃ A c, w'.heap[q]? = some (.cells #[.slice A (textR m l 0).1.length c] 26 (0, 0)) ∧ (textR m l 0).1.length ≤ c ∧ Kd.F (Kd.int .u8) w' (fun b => b ≠ g ∧ b ≠ q) A (textR m l 0).1.length (textR m l 0).1) ∧ Kept w w' (fun b => b = g ∨ b = q) := by
 have HN := Lib.hid (text1_calls w0 w g p pl q m hm hm0 l hR hp hl hq hll hgp hgl hgq hpq hlq hpl hq0)
 have HBK := Lib.hid (textR_back (m : Int) l)
 obtain ⟨A, c, h1, h2, h3⟩ := hR.ex
 have c1 := zD h1 0
 have c2 := zD h1 1
 simp only [List.getElem?_toArray, List.getElem?_cons_zero, List.getElem?_cons_succ] at c1 c2
 have H1 := Lib.hid h1
 have H3 := Lib.hid h3
 have HR := Lib.hid hR
 obtain ⟨t, ht⟩ : ∃ x, x = textR (m : Int) l 0 := ⟨_, rfl⟩
 rw [← ht] at HN HBK ⊢
 obtain ⟨e0, he0⟩ : ∃ x, x = t.2.2 := ⟨_, rfl⟩
 rw [← he0] at HN HBK ⊢
 clear h1 hp hq hR h3 hl ht he0
 by_cases hz : e0 = 0
 ·
  have hb0 : (e0 != 0) = false := by simp [hz]
  have HZ := Lib.hid hz
  clear hz
  go_enter Tryd.func59, Tryd.ntmps59
  go_wp2_with (go_at_call 60; refine HN.out.mono ?_; rintro e w1 ⟨rfl, hR1, hq1, hk1⟩; obtain ⟨A1, c1', k1, k2, k3⟩ := hR1.ex; have d1 := zD k1 1; have f1 := zH k1 1; have k1' := blk_set k1 1 (.int .i64 e0); have d1' := zD k1' 1; have d0' := zD k1' 0; have f0' := zH k1' 0; simp only [List.getElem?_toArray, List.getElem?_cons_zero, List.getElem?_cons_succ, List.setIfInBounds_toArray, List.set_cons_zero, List.set_cons_succ] at d1 d1' d0' k1'; have K1 := Lib.hid k1'; have K2 := Lib.hid k2; have K3 := Lib.hid k3; have HR1 := Lib.hid hR1; have HQ1 := Lib.hid hq1; have HK1 := Lib.hid hk1; clear hR1 hq1 hk1 k1 k1' k2 k3)
  go_end0
  have hg1 : w0.heap.size ≤ g := HR1.out.ge
  obtain ⟨A5, c5, m1, m2, m3⟩ := HQ1.out
  rw [if_pos HZ.out] at K1 K2 K3
  refine ⟨rfl, ⟨⟨_, _, by have h := K1.out; rw [HZ.out] at h ⊢; exact h, K2.out, K3.out⟩, hg1, HR1.out.bel.setCell hg1 _⟩, ⟨A5, c5, blk_far m1 (p := ⟨g, 1, none⟩) (fun h => hgq h.symm) _, m2, Kd.F_far m3 (fun b hb => hb.1) _⟩, HK1.out.setCell (.inl (.inl rfl)) _⟩
 ·
  have hb0 : (e0 != 0) = true := bne_iff_ne.mpr hz
  have HZ := Lib.hid hz
  clear hz
  go_enter Tryd.func59, Tryd.ntmps59
  go_wp2_with (go_at_call 60; refine HN.out.mono ?_; rintro e w1 ⟨rfl, hR1, hq1, hk1⟩; obtain ⟨A1, c1', k1, k2, k3⟩ := hR1.ex; have d1 := zD k1 1; have f1 := zH k1 1; have k1' := blk_set k1 1 (.int .i64 e0); have d1' := zD k1' 1; have d0' := zD k1' 0; have f0' := zH k1' 0; simp only [List.getElem?_toArray, List.getElem?_cons_zero, List.getElem?_cons_succ, List.setIfInBounds_toArray, List.set_cons_zero, List.set_cons_succ] at d1 d1' d0' k1'; have K1 := Lib.hid k1'; have K2 := Lib.hid k2; have K3 := Lib.hid k3; have HR1 := Lib.hid hR1; have HQ1 := Lib.hid hq1; have HK1 := Lib.hid hk1; clear hR1 hq1 hk1 k1 k1' k2 k3)
  go_end0
  have hg1 : w0.heap.size ≤ g := HR1.out.ge
  obtain ⟨A5, c5, m1, m2, m3⟩ := HQ1.out
  have k2 := blk_set K1.out 0 (.slice A l.length c)
  rw [HBK.out HZ.out]
  refine ⟨rfl, ⟨⟨A, c, k2, h2, H3.out⟩, hg1, (HR1.out.bel.setCell hg1 _).setCell hg1 _⟩, ⟨A5, c5, blk_far (blk_far m1 (p := ⟨g, 1, none⟩) (fun h => hgq h.symm) _) (p := ⟨g, 0, none⟩) (fun h => hgq h.symm) _, m2, Kd.F_far (Kd.F_far m3 (fun b hb => hb.1) _) (fun b hb => hb.1) _⟩, (HK1.out.setCell (.inl (.inl rfl)) _).setCell (.inl (.inl rfl)) _⟩
set_option maxHeartbeats 8000000 in
set_option maxRecDepth 100000 in
theorem text_calls (w0 w : World) (g : Nat) (m : Nat) (hm : m ≤ 1000000) (hm0 : 0 < m) (l : List Int) (f : Int) (hR : Rdr w0 w g l f) (hll : l.length < 140737488355328) :
  Calls Tryd.prog 46 #[.pointer (some ⟨g, 0, none⟩), .int .i64 (m : Int)] w fun e w' => (∃ A c, e = .returned (.slice A (textR m l f).1.length c) ∧ (textR m l f).1.length ≤ c ∧ Kd.C (Kd.int .u8) w' A (textR m l f).1.length (textR m l f).1) ∧ Rdr w0 w' g (textR m l f).2.1 (textR m l f).2.2 ∧ Kept w w' (fun b => b = g) := by
 have hgw : g < w.heap.size := by obtain ⟨A, c, h1, _⟩ := hR.ex; exact blk_lt h1
 have hw0 : w0.heap.size ≤ w.heap.size := hR.bel.size
 obtain ⟨wa, hwa⟩ : ∃ x, x = ((w.alloc (.cells #[.pointer (some ⟨g, 0, none⟩)] 54)).alloc (.cells #[.int .i64 (m : Int)] 3)).alloc (.cells #[.slice none 0 0] 26) := ⟨_, rfl⟩
 have e1 : (w.alloc (.cells #[.pointer (some ⟨g, 0, none⟩)] 54)).heap.size = w.heap.size + 1 := by simp
 have e2 : ((w.alloc (.cells #[.pointer (some ⟨g, 0, none⟩)] 54)).alloc (.cells #[.int .i64 (m : Int)] 3)).heap.size = w.heap.size + 1 + 1 := by simp
 have hp : wa.heap[w.heap.size]? = some (.cells #[.pointer (some ⟨g, 0, none⟩)] 54 (0, 0)) := by rw [hwa]; exact zF (zF (blk_new _ _) _) _
 have hl : wa.heap[w.heap.size + 1]? = some (.cells #[.int .i64 (m : Int)] 3 (0, 0)) := by rw [hwa, ← e1]; exact zF (blk_new _ _) _
 have hq : wa.heap[w.heap.size + 1 + 1]? = some (.cells #[.slice none 0 0] 26 (0, 0)) := by rw [hwa, ← e2]; exact blk_new _ _
 have hB : Below w.heap.size w wa := by rw [hwa]; exact (((Below.refl _ _).alloc (Nat.le_refl _) _).alloc (by rw [e1]; omega) _).alloc (by rw [e2]; omega) _
 have hRb : Rdr w0 wa g l f := hR.kept hB
 have hKb : Kept w wa (fun b => b = g) := Kept.of_below hB _
 have hmf : ∀ (fn : Fn) (first cap : Array Value) (w : World), (Instr.makeFunc fn first cap).run Tryd.prog w = .ok (.func fn first cap) w := fun _ _ _ _ => rfl
 have c1 := zD hp 0
 have c3 := zD hq 0
 simp only [List.getElem?_toArray, List.getElem?_cons_zero, List.getElem?_cons_succ] at c1 c3
 have HP := Lib.hid hp
 have HQ := Lib.hid hq
 have HL := Lib.hid hl
 have HRB := Lib.hid hRb
 have HKB := Lib.hid hKb
 have hgp : g ≠ w.heap.size := by omega
 have hgl : g ≠ w.heap.size + 1 := by omega
 have hgq : g ≠ w.heap.size + 1 + 1 := by omega
 clear hp hq hl hB hRb hKb
 by_cases hf : f = 0
 ·
  subst hf
  have HT := Lib.hid (trytext_calls w0 wa g w.heap.size (w.heap.size + 1) (w.heap.size + 1 + 1) m hm hm0 l HRB.out HP.out HL.out HQ.out hll hgp hgl hgq (by omega) (by omega) (by omega) (by omega))
  rw [hwa] at c1 c3 HT
  have HWA := Lib.hid hwa
  clear hwa
  go_enter Tryd.func46, Tryd.ntmps46
  go_wp2_with fail
  refine HT.out.mono ?_
  rintro e w1 ⟨rfl, hR1, ⟨A5, c5, hq1, m2, m3⟩, hk1⟩
  have d1 := zD hq1 0
  simp only [List.getElem?_toArray, List.getElem?_cons_zero, List.getElem?_cons_succ] at d1
  have HR1 := Lib.hid hR1
  have HK1 := Lib.hid hk1
  have M3 := Lib.hid m3
  clear hR1 hq1 hk1 HT m3
  go_wp2_with fail
  go_ret
  rw [← HWA.out] at HK1
  exact ⟨⟨A5, c5, rfl, m2, Kd.F_now M3.out⟩, HR1.out, HKB.out.then_ HK1.out (fun k hk => by rcases hk with h | h; exact .inl h; exact .inr (by omega))⟩
 ·
  have HT := Lib.hid (try_fails w0 wa g l f (.func (.func 60) #[] #[.pointer (some ⟨w.heap.size, 0, none⟩), .pointer (some ⟨w.heap.size + 1, 0, none⟩), .pointer (some ⟨w.heap.size + 1 + 1, 0, none⟩)]) HRB.out hf)
  rw [hwa] at c1 c3 HT
  have HWA := Lib.hid hwa
  have HF := Lib.hid hf
  clear hwa hf
  go_enter Tryd.func46, Tryd.ntmps46
  go_wp2_with fail
  refine HT.out.mono ?_
  rintro e w1 ⟨rfl, rfl⟩
  clear HT
  go_wp2_with fail
  go_ret
  rw [← HWA.out]
  have hn : textR m l f = ([], l, f) := by unfold textR; rw [if_neg HF.out]
  rw [hn]
  exact ⟨⟨none, 0, rfl, Nat.le_refl _, Kd.C_nil _ _⟩, HRB.out, HKB.out⟩
end Go.Proofs.YtembjjombhfglaaDoor.G
