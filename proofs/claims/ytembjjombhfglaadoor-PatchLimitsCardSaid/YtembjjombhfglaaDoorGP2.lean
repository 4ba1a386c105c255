import Derived.Test.YtembjjombhfglaaDoorGP1
namespace Go.Proofs.YtembjjombhfglaaDoor.G
open Go.RowKit Go.Proofs.YtembjjombhfglaaDoorW.PrintWords Go.Proofs.YtembjjombhfglaaDoorW.PrintLast Go.Proofs.YtembjjombhfglaaDoorW.PrintMore
attribute [local go_sem] max2_int min2_int max_two min_two max_three min_three max_four min_four
set_option linter.unusedVariables false
set_option linter.unusedSimpArgs false
structure Rdr (w0 w : World) (g : Nat) (l : List Int) (f : Int) : Prop where
 ex : ∃ A c, w.heap[g]? = some (.cells #[.slice A l.length c, .int .i64 f] 79 (0, 0)) ∧ l.length ≤ c ∧ Kd.C (Kd.int .u8) w0 A l.length l
 ge : w0.heap.size ≤ g
 bel : Below w0.heap.size w0 w
theorem Rdr.kept {w0 w w' : World} {g : Nat} {l : List Int} {f : Int} (h : Rdr w0 w g l f) (hb : Below w.heap.size w w') : Rdr w0 w' g l f := by
 obtain ⟨A, c, h1, h2, h3⟩ := h.ex
 exact ⟨⟨A, c, (hb.block g (blk_lt h1)).trans h1, h2, h3⟩, h.ge, h.bel.trans (hb.mono h.bel.size)⟩
theorem Rdr.far {w0 w : World} {g : Nat} {l : List Int} {f : Int} (h : Rdr w0 w g l f) {p : Addr} (hp : g ≠ p.block) (hw : w0.heap.size ≤ p.block) (u : Value) : Rdr w0 (w.setCell p u) g l f := by
 obtain ⟨A, c, h1, h2, h3⟩ := h.ex
 exact ⟨⟨A, c, blk_far h1 hp u, h2, h3⟩, h.ge, h.bel.setCell hw u⟩
set_option maxHeartbeats 8000000 in
set_option maxRecDepth 100000 in
theorem open_calls (A : Option Addr) (c : Nat) (l : List Int) (w : World) (hr : Kd.C (Kd.int .u8) w A l.length l) (hc : l.length ≤ c) (hl : l.length < 140737488355328) :
  Calls Tryd.prog 24 #[.slice A l.length c] w fun e w' => ∃ g w0, e = .returned (.pointer (some ⟨g, 0, none⟩)) ∧ Rdr w0 w' g l 0 ∧ Below w.heap.size w w0 ∧ Below w.heap.size w w' := by
 have HR := Lib.hid hr
 have HC := Lib.hid hc
 have HL := Lib.hid hl
 clear hr hc hl
 go_enter Tryd.func24, Tryd.ntmps24
 go_wp2_with fail
 refine (clone_bytes.calls A c l l w HR.out HC.out (by unfold clone_bytes.f; rw [if_pos HL.out])).mono ?_
 rintro e w0 ⟨v, rfl, hv, hb⟩
 obtain ⟨A1, c1, rfl, hc1, hC1⟩ := Kd.R_reads hv
 have HB := Lib.hid hb
 have HC1 := Lib.hid hC1
 clear hv hb hC1
 go_wp2_with fail
 go_ret
 exact ⟨_, w0, rfl, ⟨⟨A1, c1, heap_alloc_new _ _, hc1, HC1.out⟩, Nat.le_refl _, (Below.refl _ _).alloc (Nat.le_refl _) _⟩, HB.out, HB.out.alloc HB.out.size _⟩
set_option maxHeartbeats 8000000 in
set_option maxRecDepth 100000 in
theorem num1_calls (w0 w : World) (g p q : Nat) (l : List Int) (f x : Int) (hR : Rdr w0 w g l f) (hp : w.heap[p]? = some (.cells #[.pointer (some ⟨g, 0, none⟩)] 54 (0, 0))) (hq : w.heap[q]? = some (.cells #[.int .u64 x] 70 (0, 0)))
  (hgp : g ≠ p) (hgq : g ≠ q) (hpq : p ≠ q) (hq0 : w0.heap.size ≤ q) :
  Calls Tryd.prog 62 #[.pointer (some ⟨p, 0, none⟩), .pointer (some ⟨q, 0, none⟩)] w fun e w' => e = .returned (.int .i64 (takeF l).2.2) ∧ Rdr w0 w' g (l.drop (takeF l).2.1) f ∧ w'.heap[q]? = some (.cells #[.int .u64 (takeF l).1] 70 (0, 0)) ∧ Kept w w' (fun b => b = g ∨ b = q) := by
 obtain ⟨A, c, h1, h2, h3⟩ := hR.ex
 have c1 := zD h1 0
 have c2 := zD h1 1
 have c3 := zD hp 0
 simp only [List.getElem?_toArray, List.getElem?_cons_zero, List.getElem?_cons_succ] at c1 c2 c3
 have H1 := Lib.hid h1
 have HP := Lib.hid hp
 have HQ := Lib.hid hq
 have HR := Lib.hid hR
 have H3 := Lib.hid h3
 clear h1 hp hq hR h3
 go_enter Tryd.func62, Tryd.ntmps62
 go_wp2_with fail
 refine (take_calls A c l _ (Kd.C_below H3.out HR.out.bel) h2).mono ?_
 rintro e w1 ⟨rfl, hb⟩
 obtain ⟨n, hn⟩ : ∃ n, n = (takeF l).1 := ⟨_, rfl⟩
 obtain ⟨k, hk⟩ : ∃ n, n = (takeF l).2.1 := ⟨_, rfl⟩
 obtain ⟨e, he⟩ : ∃ n, n = (takeF l).2.2 := ⟨_, rfl⟩
 have hkl : k ≤ l.length := by rw [hk]; exact takeF_le l
 rw [← hn, ← hk, ← he]
 obtain ⟨i05, hi05, _, hsz5, _⟩ := info_parts info5
 have hcut := cut_from (P := Tryd.prog) 26 5 .i64 Tryd.underlying26 hi05 1 hsz5 A l.length c (k : Int) (by omega) (by omega)
 rw [Int.toNat_natCast] at hcut
 obtain ⟨B, hB⟩ : ∃ B, B = (if c = k then A else A.map (·.add (k * 1))) := ⟨_, rfl⟩
 rw [← hB] at hcut
 have hCB : Kd.C (Kd.int .u8) w0 B (l.drop k).length (l.drop k) := by rw [hB]; exact Kd.C_drop H3.out hkl h2
 have HH1 := (hb.block g (blk_lt H1.out)).trans H1.out
 have HHP := (hb.block p (blk_lt HP.out)).trans HP.out
 have HHQ := (hb.block q (blk_lt HQ.out)).trans HQ.out
 have HB := Lib.hid hb
 have HCB := Lib.hid hCB
 have HN := Lib.hid hn
 have HK := Lib.hid hk
 have HE := Lib.hid he
 clear hn hk he hB hCB hb hi05 hsz5 c1 c2 c3
 have K1 := Lib.hid HH1
 have KP := Lib.hid HHP
 have KQ := Lib.hid HHQ
 clear HH1 HHP HHQ
 go_wp2_with fail
 have c1 := zD K1.out 0
 have c3 := zD KP.out 0
 simp only [List.getElem?_toArray, List.getElem?_cons_zero, List.getElem?_cons_succ] at c1 c3
 refine start_ (n := 12) (S := (fun w' => w'.cell? ⟨p, 0, none⟩ = some (.pointer (some ⟨g, 0, none⟩)) ∧ w'.cell? ⟨g, 0, none⟩ = some (.slice A l.length c))) (ds := [11]) #[false, false, false, false, false, false, false, false, false, false, false, false] (by kernel_rfl) rfl rfl ⟨c3, c1⟩ (fun hHeld => ?_)
 obtain ⟨w2, hw2⟩ : ∃ x, x = w1.drew := ⟨_, rfl⟩
 rw [← hw2] at hHeld ⊢
 have J1 : w2.heap[g]? = some (.cells #[.slice A l.length c, .int .i64 f] 79 (0, 0)) := by rw [hw2]; exact K1.out
 have JP : w2.heap[p]? = some (.cells #[.pointer (some ⟨g, 0, none⟩)] 54 (0, 0)) := by rw [hw2]; exact KP.out
 have JQ : w2.heap[q]? = some (.cells #[.int .u64 x] 70 (0, 0)) := by rw [hw2]; exact KQ.out
 have HB2 : Hid (Below w.heap.size w w2) := Lib.hid (by rw [hw2]; exact HB.out.trans ⟨rfl, rfl, rfl, Nat.le_refl _, fun _ _ => rfl⟩)
 clear hw2 K1 KP KQ HB c1 c3
 have f2 := zH JQ 0
 have c4 := zD JQ 0
 have J1' := blk_far J1 (p := ⟨q, 0, none⟩) hgq (.int .u64 n)
 have c1' := zD J1' 0
 have JP' := blk_far JP (p := ⟨q, 0, none⟩) hpq (.int .u64 n)
 have c3' := zD JP' 0
 have f1' := zH J1' 0
 simp only [List.getElem?_toArray, List.getElem?_cons_zero, List.getElem?_cons_succ] at c4 c1' c3'
 replace J1 := Lib.hid J1
 replace JP := Lib.hid JP
 replace JQ := Lib.hid JQ
 replace J1' := Lib.hid J1'
 replace JP' := Lib.hid JP'
 refine take_ (i := 0) (N := some 15) (v := ?_) (a' := ?_) #[true, false, false, false, false, false, false, false, false, false, false, false] rfl rfl (by kernel_rfl) (fun _ _ _ h => h) (Or.inl ⟨by rfl, ?_⟩) hHeld ?_ ?_
 rotate_left
 ·
  rintro w' ⟨s0, s1⟩
  go_simp
  with_reducible rfl
 rotate_left
 ·
  simp only [Act.put, List.setIfInBounds_toArray, List.set_cons_zero, List.set_cons_succ, i64_w, i32_w]
  rfl
 refine pure_ (i := 1) (N := some 16) (v := ?_) (a' := ?_) #[true, true, false, false, false, false, false, false, false, false, false, false] rfl rfl (by kernel_rfl) (fun _ _ _ h => h) (Or.inl ⟨by rfl, ?_⟩) ?_ ?_
 rotate_left
 ·
  intro w'
  go_simp
  with_reducible rfl
 rotate_left
 ·
  simp only [Act.put, List.setIfInBounds_toArray, List.set_cons_zero, List.set_cons_succ, i64_w, i32_w]
  rfl
 refine take_ (i := 2) (N := some 17) (v := ?_) (a' := ?_) #[true, true, true, false, false, false, false, false, false, false, false, false] rfl rfl (by kernel_rfl) (fun _ _ _ h => h) (Or.inl ⟨by rfl, ?_⟩) hHeld ?_ ?_
 rotate_left
 ·
  rintro w' ⟨s0, s1⟩
  go_simp
  with_reducible rfl
 rotate_left
 ·
  simp only [Act.put, List.setIfInBounds_toArray, List.set_cons_zero, List.set_cons_succ, i64_w, i32_w]
  rfl
 refine pure_ (i := 3) (N := some 18) (v := ?_) (a' := ?_) #[true, true, true, true, false, false, false, false, false, false, false, false] rfl rfl (by kernel_rfl) (fun _ _ _ h => h) (Or.inl ⟨by rfl, ?_⟩) ?_ ?_
 rotate_left
 ·
  intro w'
  go_simp
  with_reducible rfl
 rotate_left
 ·
  simp only [Act.put, List.setIfInBounds_toArray, List.set_cons_zero, List.set_cons_succ, i64_w, i32_w]
  rfl
 refine pure_ (i := 4) (N := some 19) (v := ?_) (a' := ?_) #[true, true, true, true, true, false, false, false, false, false, false, false] rfl rfl (by kernel_rfl) (fun _ _ _ h => h) (Or.inl ⟨by rfl, ?_⟩) ?_ ?_
 rotate_left
 ·
  intro w'
  go_simp
  with_reducible rfl
 rotate_left
 ·
  simp only [Act.put, List.setIfInBounds_toArray, List.set_cons_zero, List.set_cons_succ, i64_w, i32_w]
  rfl
 refine take_ (i := 5) (N := some 20) (v := ?_) (a' := ?_) #[true, true, true, true, true, true, false, false, false, false, false, false] rfl rfl (by kernel_rfl) (fun _ _ _ h => h) (Or.inl ⟨by rfl, ?_⟩) hHeld ?_ ?_
 rotate_left
 ·
  rintro w' ⟨s0, s1⟩
  go_simp
  with_reducible rfl
 rotate_left
 ·
  simp only [Act.put, List.setIfInBounds_toArray, List.set_cons_zero, List.set_cons_succ, i64_w, i32_w]
  rfl
 refine pure_ (i := 6) (N := some 21) (v := ?_) (a' := ?_) #[true, true, true, true, true, true, true, false, false, false, false, false] rfl rfl (by kernel_rfl) (fun _ _ _ h => h) (Or.inl ⟨by rfl, ?_⟩) ?_ ?_
 rotate_left
 ·
  intro w'
  go_simp
  with_reducible rfl
 rotate_left
 ·
  simp only [Act.put, List.setIfInBounds_toArray, List.set_cons_zero, List.set_cons_succ, i64_w, i32_w]
  rfl
 refine pure_ (i := 7) (N := some 22) (v := ?_) (a' := ?_) #[true, true, true, true, true, true, true, true, false, false, false, false] rfl rfl (by kernel_rfl) (fun _ _ _ h => h) (Or.inl ⟨by rfl, ?_⟩) ?_ ?_
 rotate_left
 ·
  intro w'
  go_simp
  with_reducible rfl
 rotate_left
 ·
  simp only [Act.put, List.setIfInBounds_toArray, List.set_cons_zero, List.set_cons_succ, i64_w, i32_w]
  rfl
 refine one_ (i := 8) (N := none) #[true, true, true, true, true, true, true, true, true, false, false, false] rfl rfl (by kernel_rfl) (by decide) (fun K hK => ?_)
 refine skip_ (w1 := ?_) (by rfl) rfl ?_ ?_
 rotate_left
 ·
  go_simp
  rfl
 refine hK.out _ _ ⟨c3', c1'⟩ (fun hHeld => ?_)
 clear hK K
 refine pure_ (i := 9) (N := some 23) (v := ?_) (a' := ?_) #[true, true, true, true, true, true, true, true, true, true, false, false] rfl rfl (by kernel_rfl) (fun _ _ _ h => h) (Or.inl ⟨by rfl, ?_⟩) ?_ ?_
 rotate_left
 ·
  intro w'
  go_simp
  with_reducible rfl
 rotate_left
 ·
  simp only [Act.put, List.setIfInBounds_toArray, List.set_cons_zero, List.set_cons_succ, i64_w, i32_w]
  rfl
 refine pure_ (i := 10) (N := some 24) (v := ?_) (a' := ?_) #[true, true, true, true, true, true, true, true, true, true, true, false] rfl rfl (by kernel_rfl) (fun _ _ _ h => h) (Or.inl ⟨by rfl, ?_⟩) ?_ ?_
 rotate_left
 ·
  intro w'
  go_simp
  with_reducible rfl
 rotate_left
 ·
  simp only [Act.put, List.setIfInBounds_toArray, List.set_cons_zero, List.set_cons_succ, i64_w, i32_w]
  rfl
 refine last_ (i := 11) (N := none) #[true, true, true, true, true, true, true, true, true, true, true, true] rfl rfl (by kernel_rfl) (by decide) (fun K hK => ?_)
 refine skip_ (w1 := ?_) (by rfl) rfl ?_ ?_
 rotate_left
 ·
  go_simp
  rfl
 refine hK.out _ _ ?_
 clear hK K
 refine done_ (by kernel_rfl) ?_
 go_wp2_with fail
 go_ret
 have e1 : (w2.setCell ⟨q, 0, none⟩ (.int .u64 n)).heap[q]? = some (.cells #[.int .u64 n] 70 (0, 0)) := blk_set JQ.out 0 _
 have e2 : ((w2.setCell ⟨q, 0, none⟩ (.int .u64 n)).setCell ⟨g, 0, none⟩ (.slice B (l.length - k) (c - k))).heap[g]? = some (.cells #[.slice B (l.length - k) (c - k), .int .i64 f] 79 (0, 0)) := blk_set J1'.out 0 _
 have hb2 : Below w0.heap.size w0 w2 := HR.out.bel.trans (HB2.out.mono HR.out.bel.size)
 rw [← HK.out, ← HN.out, ← HE.out]
 refine ⟨rfl, ⟨⟨B, c - k, by rw [List.length_drop]; exact e2, by rw [List.length_drop]; omega, HCB.out⟩, HR.out.ge, (hb2.setCell hq0 _).setCell HR.out.ge _⟩, blk_far e1 (p := ⟨g, 0, none⟩) (fun h => hgq h.symm) _, ((Kept.of_below HB2.out _).setCell (.inl (.inr rfl)) _).setCell (.inl (.inl rfl)) _⟩
def numR (l : List Int) (f : Int) : Int × List Int × Int := if f = 0 then (if (takeF l).2.2 = 0 then ((takeF l).1, l.drop (takeF l).2.1, 0) else ((takeF l).1, l, (takeF l).2.2)) else (0, l, f)
set_option maxHeartbeats 8000000 in
set_option maxRecDepth 100000 in
theorem try_fails (w0 w : World) (g : Nat) (l : List Int) (f : Int) (fn : Value) (hR : Rdr w0 w g l f) (hf : f ≠ 0) : Calls Tryd.prog 59 #[.pointer (some ⟨g, 0, none⟩), fn] w fun e w' => e = .returned (.tuple #[]) ∧ w' = w := by
 obtain ⟨A, c, h1, h2, h3⟩ := hR.ex
 have c2 := zD h1 1
 simp only [List.getElem?_toArray, List.getElem?_cons_zero, List.getElem?_cons_succ] at c2
 have hb : (f != 0) = true := bne_iff_ne.mpr hf
 clear hR h1 h3 hf
 go_enter Tryd.func59, Tryd.ntmps59
 go_wp2_with fail
 exact bodyPost_ret (v := .tuple #[]) (by simp [results, Tryd.results59, go_sem]) rfl ⟨rfl, rfl⟩
set_option maxHeartbeats 8000000 in
set_option maxRecDepth 100000 in
theorem trynum_calls (w0 w : World) (g p q : Nat) (l : List Int) (x : Int) (hR : Rdr w0 w g l 0) (hp : w.heap[p]? = some (.cells #[.pointer (some ⟨g, 0, none⟩)] 54 (0, 0))) (hq : w.heap[q]? = some (.cells #[.int .u64 x] 70 (0, 0)))
  (hgp : g ≠ p) (hgq : g ≠ q) (hpq : p ≠ q) (hq0 : w0.heap.size ≤ q) :
  Calls Tryd.prog 59 #[.pointer (some ⟨g, 0, none⟩), .func (.func 62) #[] #[.pointer (some ⟨p, 0, none⟩), .pointer (some ⟨q, 0, none⟩)]] w fun e w' => e = .returned (.tuple #[]) ∧ Rdr w0 w' g (numR l 0).2.1 (numR l 0).2.2 ∧ w'.heap[q]? = some (.cells #[.int .u64 (numR l 0).1] 70 (0, 0)) ∧ Kept w w' (fun b => b = g ∨ b = q) := by
 obtain ⟨A, c, h1, h2, h3⟩ := hR.ex
 have c1 := zD h1 0
 have c2 := zD h1 1
 simp only [List.getElem?_toArray, List.getElem?_cons_zero, List.getElem?_cons_succ] at c1 c2
 have H1 := Lib.hid h1
 have HN := Lib.hid (num1_calls w0 w g p q l 0 x hR hp hq hgp hgq hpq hq0)
 have H3 := Lib.hid h3
 have HR := Lib.hid hR
 clear h1 hp hq hR h3
 obtain ⟨e0, he0⟩ : ∃ x, x = (takeF l).2.2 := ⟨_, rfl⟩
 have he0' := he0
 rw [← he0] at HN
 have HE0 := Lib.hid he0
 clear he0 he0'
 by_cases hz : e0 = 0
 ·
  have hb0 : (e0 != 0) = false := by simp [hz]
  have HZ := Lib.hid hz
  clear hz
  go_enter Tryd.func59, Tryd.ntmps59
  go_wp2_with (go_at_call 62; refine HN.out.mono ?_; rintro e w1 ⟨rfl, hR1, hq1, hk1⟩; obtain ⟨A1, c1', k1, k2, k3⟩ := hR1.ex; have d1 := zD k1 1; have f1 := zH k1 1; have k1' := blk_set k1 1 (.int .i64 e0); have d1' := zD k1' 1; have d0' := zD k1' 0; have f0' := zH k1' 0; simp only [List.getElem?_toArray, List.getElem?_cons_zero, List.getElem?_cons_succ, List.setIfInBounds_toArray, List.set_cons_zero, List.set_cons_succ] at d1 d1' d0' k1'; have K1 := Lib.hid k1'; have K2 := Lib.hid k2; have K3 := Lib.hid k3; have HR1 := Lib.hid hR1; have HQ1 := Lib.hid hq1; have HK1 := Lib.hid hk1; clear hR1 hq1 hk1 k1 k1' k2 k3)
  go_end0
  have hn : numR l 0 = ((takeF l).1, l.drop (takeF l).2.1, 0) := by unfold numR; rw [if_pos rfl, if_pos (by rw [← HE0.out]; exact HZ.out)]
  rw [hn]
  have hg1 : w0.heap.size ≤ g := HR1.out.ge
  exact ⟨rfl, ⟨⟨_, _, by have h := K1.out; rw [HZ.out] at h ⊢; exact h, K2.out, K3.out⟩, hg1, HR1.out.bel.setCell hg1 _⟩, blk_far HQ1.out (p := ⟨g, 1, none⟩) (fun h => hgq h.symm) _, HK1.out.setCell (.inl (.inl rfl)) _⟩
 ·
  have hb0 : (e0 != 0) = true := bne_iff_ne.mpr hz
  have HZ := Lib.hid hz
  clear hz
  go_enter Tryd.func59, Tryd.ntmps59
  go_wp2_with (go_at_call 62; refine HN.out.mono ?_; rintro e w1 ⟨rfl, hR1, hq1, hk1⟩; obtain ⟨A1, c1', k1, k2, k3⟩ := hR1.ex; have d1 := zD k1 1; have f1 := zH k1 1; have k1' := blk_set k1 1 (.int .i64 e0); have d1' := zD k1' 1; have d0' := zD k1' 0; have f0' := zH k1' 0; simp only [List.getElem?_toArray, List.getElem?_cons_zero, List.getElem?_cons_succ, List.setIfInBounds_toArray, List.set_cons_zero, List.set_cons_succ] at d1 d1' d0' k1'; have K1 := Lib.hid k1'; have K2 := Lib.hid k2; have K3 := Lib.hid k3; have HR1 := Lib.hid hR1; have HQ1 := Lib.hid hq1; have HK1 := Lib.hid hk1; clear hR1 hq1 hk1 k1 k1' k2 k3)
  go_end0
  have hn : numR l 0 = ((takeF l).1, l, (takeF l).2.2) := by unfold numR; rw [if_pos rfl, if_neg (by rw [← HE0.out]; exact HZ.out)]
  rw [hn]
  have hg1 : w0.heap.size ≤ g := HR1.out.ge
  have k2 := blk_set K1.out 0 (.slice A l.length c)
  exact ⟨rfl, ⟨⟨A, c, by rw [← HE0.out]; exact k2, h2, H3.out⟩, hg1, (HR1.out.bel.setCell hg1 _).setCell hg1 _⟩, blk_far (blk_far HQ1.out (p := ⟨g, 1, none⟩) (fun h => hgq h.symm) _) (p := ⟨g, 0, none⟩) (fun h => hgq h.symm) _, (HK1.out.setCell (.inl (.inl rfl)) _).setCell (.inl (.inl rfl)) _⟩
set_option maxHeartbeats 8000000 in
set_option maxRecDepth 100000 in
theorem num_calls (w0 w : World) (g : Nat) (l : List Int) (f : Int) (hR : Rdr w0 w g l f) :
  Calls Tryd.prog 47 #[.pointer (some ⟨g, 0, none⟩)] w fun e w' => e = .returned (.int .u64 (numR l f).1) ∧ Rdr w0 w' g (numR l f).2.1 (numR l f).2.2 ∧ Kept w w' (fun b => b = g) := by
 have hgw : g < w.heap.size := by obtain ⟨A, c, h1, _⟩ := hR.ex; exact blk_lt h1
 have hw0 : w0.heap.size ≤ w.heap.size := hR.bel.size
 obtain ⟨wa, hwa⟩ : ∃ x, x = (w.alloc (.cells #[.pointer (some ⟨g, 0, none⟩)] 54)).alloc (.cells #[.int .u64 0] 70) := ⟨_, rfl⟩
 have e1 : (w.alloc (.cells #[.pointer (some ⟨g, 0, none⟩)] 54)).heap.size = w.heap.size + 1 := by simp
 have hp : wa.heap[w.heap.size]? = some (.cells #[.pointer (some ⟨g, 0, none⟩)] 54 (0, 0)) := by rw [hwa]; exact zF (blk_new _ _) _
 have hq : wa.heap[w.heap.size + 1]? = some (.cells #[.int .u64 0] 70 (0, 0)) := by rw [hwa, ← e1]; exact blk_new _ _
 have hB : Below w.heap.size w wa := by rw [hwa]; exact ((Below.refl _ _).alloc (Nat.le_refl _) _).alloc (by rw [e1]; omega) _
 have hRb : Rdr w0 wa g l f := hR.kept hB
 have hKb : Kept w wa (fun b => b = g) := Kept.of_below hB _
 have hmf : ∀ (fn : Fn) (first cap : Array Value) (w : World), (Instr.makeFunc fn first cap).run Tryd.prog w = .ok (.func fn first cap) w := fun _ _ _ _ => rfl
 have f1 := zH hq 0
 have c1 := zD hq 0
 have c2 := zD hp 0
 simp only [List.getElem?_toArray, List.getElem?_cons_zero, List.getElem?_cons_succ] at c1 c2
 have HP := Lib.hid hp
 have HQ := Lib.hid hq
 have HRB := Lib.hid hRb
 have HKB := Lib.hid hKb
 have hgp : g ≠ w.heap.size := by omega
 have hgq : g ≠ w.heap.size + 1 := by omega
 clear hp hq hB hRb hKb
 by_cases hf : f = 0
 ·
  subst hf
  have HT := Lib.hid (trynum_calls w0 wa g w.heap.size (w.heap.size + 1) l 0 HRB.out HP.out HQ.out hgp hgq (by omega) (by omega))
  rw [hwa] at f1 c1 c2 HT
  have HWA := Lib.hid hwa
  clear hwa
  go_enter Tryd.func47, Tryd.ntmps47
  go_wp2_with fail
  refine HT.out.mono ?_
  rintro e w1 ⟨rfl, hR1, hq1, hk1⟩
  have d1 := zD hq1 0
  simp only [List.getElem?_toArray, List.getElem?_cons_zero, List.getElem?_cons_succ] at d1
  have HR1 := Lib.hid hR1
  have HK1 := Lib.hid hk1
  clear hR1 hq1 hk1 HT
  go_wp2_with fail
  go_ret
  rw [← HWA.out] at HK1
  exact ⟨rfl, HR1.out, HKB.out.then_ HK1.out (fun k hk => by rcases hk with h | h; exact .inl h; exact .inr (by omega))⟩
 ·
  have HT := Lib.hid (try_fails w0 wa g l f (.func (.func 62) #[] #[.pointer (some ⟨w.heap.size, 0, none⟩), .pointer (some ⟨w.heap.size + 1, 0, none⟩)]) HRB.out hf)
  rw [hwa] at f1 c1 c2 HT
  have HWA := Lib.hid hwa
  have HF := Lib.hid hf
  clear hwa hf
  go_enter Tryd.func47, Tryd.ntmps47
  go_wp2_with fail
  refine HT.out.mono ?_
  rintro e w1 ⟨rfl, rfl⟩
  clear HT
  go_wp2_with fail
  go_ret
  rw [← HWA.out]
  have hn : numR l f = (0, l, f) := by unfold numR; rw [if_neg HF.out]
  rw [hn]
  exact ⟨rfl, HRB.out, HKB.out⟩
end Go.Proofs.YtembjjombhfglaaDoor.G
