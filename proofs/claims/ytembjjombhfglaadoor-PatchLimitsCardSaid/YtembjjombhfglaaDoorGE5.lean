import Derived.Test.YtembjjombhfglaaDoorG7
import Derived.Test.YtembjjombhfglaaDoorGP6
namespace Go.Proofs.YtembjjombhfglaaDoor.G
open Go.RowKit Go.Proofs.YtembjjombhfglaaDoorW.PrintWords Go.Proofs.YtembjjombhfglaaDoorW.PrintLast Go.Proofs.YtembjjombhfglaaDoorW.PrintMore
set_option linter.unusedVariables false
set_option linter.unusedSimpArgs false
def decodeK : Nat := 1000000
def patch_Decode.f (l0 : List Int) : Option (List ByteArray × ByteArray × ByteArray × List S48 × Int) :=
 if 131072 < l0.length then some ([], ⟨#[]⟩, ⟨#[]⟩, [], 4)
 else if (patchR l0).2.2.2.2.2.2.1 = true then some ([], ⟨#[]⟩, ⟨#[]⟩, [], 4)
 else if endR (patchR l0).2.2.2.2.1 (patchR l0).2.2.2.2.2.1 ≠ 0 then some ([], ⟨#[]⟩, ⟨#[]⟩, [], endR (patchR l0).2.2.2.2.1 (patchR l0).2.2.2.2.2.1)
 else if (patchR l0).2.2.2.2.2.2.2 = true then some ([], ⟨#[]⟩, ⟨#[]⟩, [], 3)
 else (patch_Right.f decodeK (patchR l0).1 (patchR l0).2.1 (patchR l0).2.2.1 (patchR l0).2.2.2.1).bind fun b => if b = true then some ((patchR l0).1, (patchR l0).2.1, (patchR l0).2.2.1, (patchR l0).2.2.2.1, 0) else some ([], ⟨#[]⟩, ⟨#[]⟩, [], 3)
set_option maxHeartbeats 8000000 in
set_option maxRecDepth 100000 in
theorem patch_Decode.calls (A0 : Option Addr) (c0 : Nat) (l0 : List Int) (r1 : List ByteArray) (r2 r3 : ByteArray) (r4 : List S48) (r5 : Int) (w : World) (hr0 : Kd.C (Kd.int .u8) w A0 l0.length l0) (hc0 : l0.length ≤ c0) (h : patch_Decode.f l0 = some (r1, r2, r3, r4, r5)) :
  Calls Tryd.prog 10 #[.slice A0 l0.length c0] w fun e w' => ∃ v0_ v3_ : Value, e = .returned (.tuple #[.agg #[v0_, .string r2, .string r3, v3_], .int .i64 r5]) ∧ Kd.R Kd.string 35 w' w.heap.size (fun _ => True) v0_ r1 ∧ Kd.R k48 48 w' w.heap.size (fun _ => True) v3_ r4 ∧ Below w.heap.size w w' := by
 have HR := Lib.hid hr0
 have HC := Lib.hid hc0
 have HH := Lib.hid h
 clear hr0 hc0 h
 have kz := blk_new w (.cells #[.slice none 0 0, .string ⟨#[]⟩, .string ⟨#[]⟩, .slice none 0 0] 25 (0, 0))
 have z0 := zD kz 0
 have z1 := zD kz 1
 have z2 := zD kz 2
 have z3 := zD kz 3
 simp only [List.getElem?_toArray, List.getElem?_cons_zero, List.getElem?_cons_succ] at z0 z1 z2 z3
 have KZ := Lib.hid kz
 clear kz
 by_cases hbig : 131072 < l0.length
 ·
  have hbig' : (131072 : Int) < (l0.length : Int) := by omega
  go_enter Tryd.func10, Tryd.ntmps10
  go_wp2_with (refine wpList_store_row rfl 25 (Operand.tmp 2) (Operand.tmp 10) rfl w.heap.size #[.slice none 0 0, .string ⟨#[]⟩, .string ⟨#[]⟩, .slice none 0 0] rfl rfl 25 _ KZ.out size25 rfl (by simp [Value.oneCell']) ?_)
  have e := setRow_heap (w.alloc (.cells #[.slice none 0 0, .string ⟨#[]⟩, .string ⟨#[]⟩, .slice none 0 0] 25)) w.heap.size _ #[.slice none 0 0, .string ⟨#[]⟩, .string ⟨#[]⟩, .slice none 0 0] 25 (0, 0) KZ.out
  have k0 := zD e 0
  have k1 := zD e 1
  have k2 := zD e 2
  have k3 := zD e 3
  simp only [List.getElem?_toArray, List.getElem?_cons_zero, List.getElem?_cons_succ] at k0 k1 k2 k3
  refine bodyPost_ret (v := .tuple #[.agg #[.slice none 0 0, .string ⟨#[]⟩, .string ⟨#[]⟩, .slice none 0 0], .int .i64 4]) (by simp [results, Tryd.results10, go_sem, k0, k1, k2, k3]) rfl ?_
  have hh := HH.out
  unfold patch_Decode.f at hh
  rw [if_pos hbig] at hh
  simp only [Option.some.injEq, Prod.mk.injEq] at hh
  obtain ⟨rfl, rfl, rfl, rfl, rfl⟩ := hh
  exact ⟨_, _, rfl, Kd.R_nil _ _ _ _ _, Kd.R_nil _ _ _ _ _, below_setRow (zC (Below.refl _ _) _) (Nat.le_refl _) _⟩
 ·
  have hbig' : ¬ (131072 : Int) < (l0.length : Int) := by omega
  have HOP := Lib.hid (open_calls A0 c0 l0 (w.alloc (.cells #[.slice none 0 0, .string ⟨#[]⟩, .string ⟨#[]⟩, .slice none 0 0] 25)) (Kd.C_alloc HR.out _) HC.out (by omega))
  go_enter Tryd.func10, Tryd.ntmps10
  go_wp2_with fail
  refine HOP.out.mono ?_
  rintro e w1 ⟨g, w0, rfl, hR1, hb0, hb1⟩
  have hwa : (w.alloc (.cells #[.slice none 0 0, .string ⟨#[]⟩, .string ⟨#[]⟩, .slice none 0 0] 25)).heap.size = w.heap.size + 1 := by simp
  rw [hwa] at hb0 hb1
  obtain ⟨gr, hgr⟩ : ∃ x, x = w1.heap.size := ⟨_, rfl⟩
  obtain ⟨w2, hw2⟩ : ∃ x, x = w1.alloc (.cells #[.pointer (some ⟨g, 0, none⟩), .bool false, .bool false] 57) := ⟨_, rfl⟩
  have hgw1 : g < w1.heap.size := by obtain ⟨A, c, h1, _⟩ := hR1.ex; exact blk_lt h1
  have hw01 : w0.heap.size ≤ w1.heap.size := hR1.bel.size
  have hw00 : w.heap.size + 1 ≤ w0.heap.size := by have := hb0.size; rw [hwa] at this; exact this
  have hg0 : w0.heap.size ≤ g := hR1.ge
  have hP2 : PRd w0 w2 g gr l0 0 false false := by
   rw [hw2, hgr]
   exact ⟨hR1.kept (zC (Below.refl _ _) _), blk_new _ _, by omega, hw01⟩
  obtain ⟨r, hr⟩ : ∃ r, r = patchR l0 := ⟨_, rfl⟩
  have HPC := Lib.hid (patch_calls w0 w2 g gr l0 hP2 (by omega) r hr.symm)
  have hh := HH.out
  unfold patch_Decode.f at hh
  rw [if_neg hbig, ← hr] at hh
  have kz1 : w2.heap[w.heap.size]? = some (.cells #[.slice none 0 0, .string ⟨#[]⟩, .string ⟨#[]⟩, .slice none 0 0] 25 (0, 0)) := by rw [hw2]; exact zF ((hb1.block _ (by omega)).trans KZ.out) _
  have hbw2 : Below w.heap.size w w2 := by
   rw [hw2]
   exact ((zC (Below.refl _ _) _ : Below w.heap.size w (w.alloc (.cells #[.slice none 0 0, .string ⟨#[]⟩, .string ⟨#[]⟩, .slice none 0 0] 25))).trans (hb1.mono (by omega))).alloc (by omega) _
  have hbw0 : Below w.heap.size w w0 := (zC (Below.refl _ _) _ : Below w.heap.size w (w.alloc (.cells #[.slice none 0 0, .string ⟨#[]⟩, .string ⟨#[]⟩, .slice none 0 0] 25))).trans (hb0.mono (by omega))
  have hg2 : w.heap.size ≠ g := by omega
  have hgr2 : w.heap.size ≠ gr := by omega
  have KZ1 := Lib.hid kz1
  have HBW0 := Lib.hid hbw0
  have HW2 := Lib.hid hw2
  have HGR := Lib.hid hgr
  have HHH := Lib.hid hh
  have HRR := Lib.hid hr
  have hw2s : w.heap.size ≤ w2.heap.size := hbw2.size
  clear hr hh kz1 hbw2 hbw0 hw2 hgr hP2 hR1 hb0 hb1 hwa hgw1 z0 z1 z2 z3 HOP
  go_wp2_with fail
  rw [← HW2.out, ← HGR.out]
  refine HPC.out.mono ?_
  rintro e W3 ⟨v0, v3, rfl, hr0, hr3, hP3, hk3⟩
  obtain ⟨ps, sa, sb, cs, lf, ff, lo, od⟩ := r
  simp only at hr0 hr3 hP3
  obtain ⟨A4, c4, hv0, hc4, hC4⟩ := Kd.R_reads hr0
  obtain ⟨A5, c5, hv3, hc5, hC5⟩ := Kd.R_reads hr3
  subst hv0
  subst hv3
  have kz3 := blk_kept KZ1.out hk3 (by rintro (h | h); exact hg2 h; exact hgr2 h)
  obtain ⟨p5, hp5⟩ : ∃ x, x = W3.heap.size := ⟨_, rfl⟩
  obtain ⟨W4, hW4⟩ : ∃ x, x = W3.alloc (.cells #[.slice A4 ps.length c4, .string sa, .string sb, .slice A5 cs.length c5] 25) := ⟨_, rfl⟩
  have k5 : W4.heap[p5]? = some (.cells #[.slice A4 ps.length c4, .string sa, .string sb, .slice A5 cs.length c5] 25 (0, 0)) := by rw [hW4, hp5]; exact blk_new _ _
  have kz4 : W4.heap[w.heap.size]? = some (.cells #[.slice none 0 0, .string ⟨#[]⟩, .string ⟨#[]⟩, .slice none 0 0] 25 (0, 0)) := by rw [hW4]; exact zF kz3 _
  have hb34 : Below W3.heap.size W3 W4 := by rw [hW4]; exact zC (Below.refl _ _) _
  have hP4 := hP3.kept hb34
  have hr04 := Kd.R_lower (Kd.R_below hr0 hb34) hw2s
  have hr34 := Kd.R_lower (Kd.R_below hr3 hb34) hw2s
  have hb4 : Below w.heap.size w W4 := HBW0.out.trans (hP4.rdr.bel.mono HBW0.out.size)
  have HEN := Lib.hid (end_calls w0 W4 g lf ff hP4.rdr)
  have q0 := zD hP4.st 0
  have q1 := zD hP4.st 1
  have q2 := zD hP4.st 2
  have m0 := zD k5 0
  have m1 := zD k5 1
  have m2 := zD k5 2
  have m3 := zD k5 3
  simp only [List.getElem?_toArray, List.getElem?_cons_zero, List.getElem?_cons_succ] at q0 q1 q2 m0 m1 m2 m3
  have HW4 := Lib.hid hW4
  have HP5 := Lib.hid hp5
  have KZ4 := Lib.hid kz4
  have K5 := Lib.hid k5
  have HR04 := Lib.hid hr04
  have HR34 := Lib.hid hr34
  have HB4 := Lib.hid hb4
  have HC4 := Lib.hid hc4
  have HC5 := Lib.hid hc5
  clear hr0 hr3 hP3 hk3 hC4 hC5 kz3 hW4 hp5 kz4 k5 hb34 hP4 hr04 hr34 hb4 hc4 hc5 HPC
  rw [HW4.out] at q0
  go_wp2_with fail
  rw [← HW4.out]
  rw [← HW4.out] at q0
  refine HEN.out.mono ?_
  rintro e W5 ⟨rfl, hW5⟩
  rw [hW5]
  clear hW5 W5 HEN
  obtain ⟨en, hen⟩ : ∃ x, x = endR lf ff := ⟨_, rfl⟩
  rw [← hen]
  have hh := HHH.out
  try simp only at hh
  rw [← hen] at hh
  have HH2 := Lib.hid hh
  clear hh hen HHH
  rw [← HP5.out]
  cases lo with
  | true =>
   go_wp2_with (refine wpList_store_row rfl 25 (Operand.tmp 2) (Operand.tmp 27) rfl w.heap.size #[.slice none 0 0, .string ⟨#[]⟩, .string ⟨#[]⟩, .slice none 0 0] rfl rfl 25 _ KZ4.out size25 rfl (by simp [Value.oneCell']) ?_)
   have e := setRow_heap W4 w.heap.size _ #[.slice none 0 0, .string ⟨#[]⟩, .string ⟨#[]⟩, .slice none 0 0] 25 (0, 0) KZ4.out
   have k0 := zD e 0
   have k1 := zD e 1
   have k2 := zD e 2
   have k3 := zD e 3
   simp only [List.getElem?_toArray, List.getElem?_cons_zero, List.getElem?_cons_succ] at k0 k1 k2 k3
   refine bodyPost_ret (v := .tuple #[.agg #[.slice none 0 0, .string ⟨#[]⟩, .string ⟨#[]⟩, .slice none 0 0], .int .i64 4]) (by simp [results, Tryd.results10, go_sem, k0, k1, k2, k3]) rfl ?_
   have hh := HH2.out
   simp only [Bool.false_eq_true, if_false, if_true, ne_eq, not_true_eq_false, not_false_eq_true] at hh
   simp only [Option.some.injEq, Prod.mk.injEq] at hh
   obtain ⟨rfl, rfl, rfl, rfl, rfl⟩ := hh
   exact ⟨_, _, rfl, Kd.R_nil _ _ _ _ _, Kd.R_nil _ _ _ _ _, below_setRow HB4.out (Nat.le_refl _) _⟩
  | false =>
   by_cases hen0 : en = 0
   ·
    subst hen0
    cases od with
    | true =>
     go_wp2_with (refine wpList_store_row rfl 25 (Operand.tmp 2) (Operand.tmp 43) rfl w.heap.size #[.slice none 0 0, .string ⟨#[]⟩, .string ⟨#[]⟩, .slice none 0 0] rfl rfl 25 _ KZ4.out size25 rfl (by simp [Value.oneCell']) ?_)
     have e := setRow_heap W4 w.heap.size _ #[.slice none 0 0, .string ⟨#[]⟩, .string ⟨#[]⟩, .slice none 0 0] 25 (0, 0) KZ4.out
     have k0 := zD e 0
     have k1 := zD e 1
     have k2 := zD e 2
     have k3 := zD e 3
     simp only [List.getElem?_toArray, List.getElem?_cons_zero, List.getElem?_cons_succ] at k0 k1 k2 k3
     refine bodyPost_ret (v := .tuple #[.agg #[.slice none 0 0, .string ⟨#[]⟩, .string ⟨#[]⟩, .slice none 0 0], .int .i64 3]) (by simp [results, Tryd.results10, go_sem, k0, k1, k2, k3]) rfl ?_
     have hh := HH2.out
     simp only [Bool.false_eq_true, if_false, if_true, ne_eq, not_true_eq_false, not_false_eq_true] at hh
     simp only [Option.some.injEq, Prod.mk.injEq] at hh
     obtain ⟨rfl, rfl, rfl, rfl, rfl⟩ := hh
     exact ⟨_, _, rfl, Kd.R_nil _ _ _ _ _, Kd.R_nil _ _ _ _ _, below_setRow HB4.out (Nat.le_refl _) _⟩
    | false =>
     have hh := HH2.out
     simp only [Bool.false_eq_true, if_false, ne_eq, not_true_eq_false] at hh
     cases hf : patch_Right.f decodeK ps sa sb cs with
     | none => rw [hf] at hh; exact absurd hh (by simp)
     | some b =>
      rw [hf, Option.bind_some] at hh
      have HRT := Lib.hid (patch_Right.calls decodeK A4 c4 ps sa sb A5 c5 cs b W4 (Kd.R_reads' HR04.out).2.2 HC4.out (Kd.R_reads' HR34.out).2.2 HC5.out hf)
      have HH3 := Lib.hid hh
      clear hh hf HH2
      go_wp2_with fail
      refine HRT.out.mono ?_
      rintro e W6 ⟨rfl, hb6⟩
      have k5 := zM K5.out hb6
      have kz := zM KZ4.out hb6
      have n0 := zD k5 0
      have n1 := zD k5 1
      have n2 := zD k5 2
      have n3 := zD k5 3
      simp only [List.getElem?_toArray, List.getElem?_cons_zero, List.getElem?_cons_succ] at n0 n1 n2 n3
      have KZ6 := Lib.hid kz
      have K6 := Lib.hid k5
      have HB6 := Lib.hid (HB4.out.trans (hb6.mono HB4.out.size))
      have HR06 := Lib.hid (Kd.R_below HR04.out hb6)
      have HR36 := Lib.hid (Kd.R_below HR34.out hb6)
      clear hb6 k5 kz HRT
      cases b with
      | false =>
       go_wp2_with (refine wpList_store_row rfl 25 (Operand.tmp 2) (Operand.tmp 43) rfl w.heap.size #[.slice none 0 0, .string ⟨#[]⟩, .string ⟨#[]⟩, .slice none 0 0] rfl rfl 25 _ KZ6.out size25 rfl (by simp [Value.oneCell']) ?_)
       have e := setRow_heap W6 w.heap.size _ #[.slice none 0 0, .string ⟨#[]⟩, .string ⟨#[]⟩, .slice none 0 0] 25 (0, 0) KZ6.out
       have k0 := zD e 0
       have k1 := zD e 1
       have k2 := zD e 2
       have k3 := zD e 3
       simp only [List.getElem?_toArray, List.getElem?_cons_zero, List.getElem?_cons_succ] at k0 k1 k2 k3
       refine bodyPost_ret (v := .tuple #[.agg #[.slice none 0 0, .string ⟨#[]⟩, .string ⟨#[]⟩, .slice none 0 0], .int .i64 3]) (by simp [results, Tryd.results10, go_sem, k0, k1, k2, k3]) rfl ?_
       have hh := HH3.out
       simp only [Bool.false_eq_true, if_false, if_true, ne_eq, not_true_eq_false, not_false_eq_true] at hh
       simp only [Option.some.injEq, Prod.mk.injEq] at hh
       obtain ⟨rfl, rfl, rfl, rfl, rfl⟩ := hh
       exact ⟨_, _, rfl, Kd.R_nil _ _ _ _ _, Kd.R_nil _ _ _ _ _, below_setRow HB6.out (Nat.le_refl _) _⟩
      | true =>
       go_wp2_with (refine wpList_store_row rfl 25 (Operand.tmp 2) (Operand.tmp 44) rfl w.heap.size #[.slice A4 ps.length c4, .string sa, .string sb, .slice A5 cs.length c5] rfl rfl 25 _ KZ6.out size25 rfl (by simp [Value.oneCell']) ?_)
       have e := setRow_heap W6 w.heap.size _ #[.slice A4 ps.length c4, .string sa, .string sb, .slice A5 cs.length c5] 25 (0, 0) KZ6.out
       have k0 := zD e 0
       have k1 := zD e 1
       have k2 := zD e 2
       have k3 := zD e 3
       simp only [List.getElem?_toArray, List.getElem?_cons_zero, List.getElem?_cons_succ] at k0 k1 k2 k3
       refine bodyPost_ret (v := .tuple #[.agg #[.slice A4 ps.length c4, .string sa, .string sb, .slice A5 cs.length c5], .int .i64 0]) (by simp [results, Tryd.results10, go_sem, k0, k1, k2, k3]) rfl ?_
       have hh := HH3.out
       simp only [if_true, Option.some.injEq, Prod.mk.injEq] at hh
       obtain ⟨rfl, rfl, rfl, rfl, rfl⟩ := hh
       refine ⟨_, _, rfl, ?_, ?_, below_setRow HB6.out (Nat.le_refl _) _⟩
       · exact Kd.R_mono (Kd.R_step (R_ne HR06.out KZ6.out (ht35 _ (by decide))) (fun k ho _ => setRow_other W6 _ _ _ ho.2)) (fun k hk => trivial)
       · exact Kd.R_mono (Kd.R_step (R_ne HR36.out KZ6.out (ht48 _ (by decide))) (fun k ho _ => setRow_other W6 _ _ _ ho.2)) (fun k hk => trivial)
   ·
    have henb : (en != 0) = true := bne_iff_ne.mpr hen0
    go_wp2_with (refine wpList_store_row rfl 25 (Operand.tmp 2) (Operand.tmp 31) rfl w.heap.size #[.slice none 0 0, .string ⟨#[]⟩, .string ⟨#[]⟩, .slice none 0 0] rfl rfl 25 _ KZ4.out size25 rfl (by simp [Value.oneCell']) ?_)
    have e := setRow_heap W4 w.heap.size _ #[.slice none 0 0, .string ⟨#[]⟩, .string ⟨#[]⟩, .slice none 0 0] 25 (0, 0) KZ4.out
    have k0 := zD e 0
    have k1 := zD e 1
    have k2 := zD e 2
    have k3 := zD e 3
    simp only [List.getElem?_toArray, List.getElem?_cons_zero, List.getElem?_cons_succ] at k0 k1 k2 k3
    refine bodyPost_ret (v := .tuple #[.agg #[.slice none 0 0, .string ⟨#[]⟩, .string ⟨#[]⟩, .slice none 0 0], .int .i64 en]) (by simp [results, Tryd.results10, go_sem, k0, k1, k2, k3]) rfl ?_
    have hh := HH2.out
    simp only [Bool.false_eq_true, if_false, ne_eq] at hh
    rw [if_pos hen0] at hh
    simp only [Option.some.injEq, Prod.mk.injEq] at hh
    obtain ⟨rfl, rfl, rfl, rfl, rfl⟩ := hh
    exact ⟨_, _, rfl, Kd.R_nil _ _ _ _ _, Kd.R_nil _ _ _ _ _, below_setRow HB4.out (Nat.le_refl _) _⟩
end Go.Proofs.YtembjjombhfglaaDoor.G
