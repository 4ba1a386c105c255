import Derived.Test.YtembjjombhfglaaDoorGP5
namespace Go.Proofs.YtembjjombhfglaaDoor.G
open Go.RowKit Go.Proofs.YtembjjombhfglaaDoorW.PrintWords Go.Proofs.YtembjjombhfglaaDoorW.PrintLast Go.Proofs.YtembjjombhfglaaDoorW.PrintMore
set_option linter.unusedVariables false
set_option linter.unusedSimpArgs false
theorem PSt.back {w0 w W : World} {g gr : Nat} {l : List Int} {f : Int} {lo od : Bool} {ok3 : Nat → Prop} {v0 v3 : Value} {ps : List ByteArray} {a nt : ByteArray} {cs : List S48} (h : PSt w0 w W g gr l f lo od ok3 v0 v3 ps a nt cs) :
  ((W.setRow w.heap.size #[v0, .string a, .string nt, v3]).cell? ⟨w.heap.size, 0, none⟩ = some v0 ∧ (W.setRow w.heap.size #[v0, .string a, .string nt, v3]).cell? ⟨w.heap.size, 1, none⟩ = some (.string a) ∧ (W.setRow w.heap.size #[v0, .string a, .string nt, v3]).cell? ⟨w.heap.size, 2, none⟩ = some (.string nt) ∧ (W.setRow w.heap.size #[v0, .string a, .string nt, v3]).cell? ⟨w.heap.size, 3, none⟩ = some v3) ∧
  Kd.R Kd.string 35 (W.setRow w.heap.size #[v0, .string a, .string nt, v3]) w.heap.size (fun _ => True) v0 ps ∧ Kd.R k48 48 (W.setRow w.heap.size #[v0, .string a, .string nt, v3]) w.heap.size (fun _ => True) v3 cs ∧
  PRd w0 (W.setRow w.heap.size #[v0, .string a, .string nt, v3]) g gr l f lo od ∧ Kept w (W.setRow w.heap.size #[v0, .string a, .string nt, v3]) (fun b => b = g ∨ b = gr) := by
 have hgw := h.gw
 have hrw := h.rw
 have e := setRow_heap W w.heap.size _ #[v0, .string a, .string nt, v3] 25 (0, 0) h.c2
 have hsz : (W.setRow w.heap.size #[v0, .string a, .string nt, v3]).heap.size = W.heap.size := by simp [World.setRow]
 obtain ⟨A, c, k1, k2, k3⟩ := h.rd.rdr.ex
 refine ⟨⟨zD e 0, zD e 1, zD e 2, zD e 3⟩, ?_, ?_, ⟨⟨⟨A, c, (setRow_other W _ _ _ (by omega)).trans k1, k2, k3⟩, h.rd.rdr.ge, h.rd.rdr.bel.trans (below_setRow (Below.refl _ _) h.ww _)⟩, (setRow_other W _ _ _ (by omega)).trans h.rd.st, h.rd.ne, h.rd.ge⟩, ⟨by rw [hsz]; exact h.kp.1, fun k hk hn => (setRow_other W _ _ _ (by omega)).trans (h.kp.2 k hk hn)⟩⟩
 · exact Kd.R_mono (Kd.R_step (R_ne h.r0 h.c2 (ht35 _ (by decide))) (fun k ho _ => setRow_other W _ _ _ ho.2)) (fun k hk => trivial)
 · exact Kd.R_mono (Kd.R_step (R_ne h.r3 h.c2 (ht48 _ (by decide))) (fun k ho _ => setRow_other W _ _ _ ho.2)) (fun k hk => trivial)
theorem PSt.far3 {w0 w W W' : World} {g gr : Nat} {l : List Int} {f : Int} {lo od : Bool} {ok3 : Nat → Prop} {v0 v3 : Value} {ps : List ByteArray} {a nt : ByteArray} {cs : List S48} (h : PSt w0 w W g gr l f lo od ok3 v0 v3 ps a nt cs) (hb : Below w.heap.size W W') (hg : W.grownBy W' v3.ownBlock) :
  W'.cell? ⟨w.heap.size + 1, 3, none⟩ = some v3 ∧ W'.frozen? ⟨w.heap.size + 1, 3, none⟩ = false := by
 have n3 : some (w.heap.size + 1) ≠ v3.ownBlock := fun he => (((R_ne h.r3 h.c3 (ht48 _ (by decide))).1 _ he.symm).2 rfl)
 have e1 := blk_grown h.c3 hg n3
 exact ⟨zD e1 3, zH e1 3⟩
theorem size25 : (Tryd.prog.info? 25).map (·.size) = some 4 := by kernel_rfl
theorem size48 : (Tryd.prog.info? 48).map (·.size) = some 3 := by kernel_rfl
theorem PSt.far0 {w0 w W W' : World} {g gr : Nat} {l : List Int} {f : Int} {lo od : Bool} {ok3 : Nat → Prop} {v0 v3 : Value} {ps : List ByteArray} {a nt : ByteArray} {cs : List S48} (h : PSt w0 w W g gr l f lo od ok3 v0 v3 ps a nt cs) (hb : Below w.heap.size W W') (hg : W.grownBy W' v0.ownBlock) :
  W'.cell? ⟨w.heap.size + 1, 0, none⟩ = some v0 ∧ W'.cell? ⟨gr, 0, none⟩ = some (.pointer (some ⟨g, 0, none⟩)) ∧ W'.frozen? ⟨w.heap.size + 1, 0, none⟩ = false := by
 have n2 : some gr ≠ v0.ownBlock := fun he => (((R_ne h.r0 h.rd.st (ht35 _ (by decide))).1 gr he.symm).2 rfl)
 have n3 : some (w.heap.size + 1) ≠ v0.ownBlock := fun he => (((R_ne h.r0 h.c3 (ht35 _ (by decide))).1 _ he.symm).2 rfl)
 have e1 := blk_grown h.c3 hg n3
 have e2 := blk_grown h.rd.st hg n2
 exact ⟨zD e1 0, zD e2 0, zH e1 0⟩
def patchR2 (lo1 : Bool) (p : List ByteArray × List Int × Int) : List ByteArray × ByteArray × ByteArray × List S48 × List Int × Int × Bool × Bool :=
 if goesR p.2.2 lo1 = true then
  let a := textR 100 p.2.1 p.2.2
  let b := textR 1000 a.2.1 a.2.2
  let q2 := numR b.2.1 b.2.2
  let lo2 := if (100 : Int) < q2.1 then true else lo1
  let c := changesR lo2 (if (100 : Int) < q2.1 then 0 else q2.1).toNat q2.2.1 q2.2.2 false []
  (p.1, strOfNums a.1, strOfNums b.1, c.1, c.2.1, c.2.2.1, lo2, c.2.2.2)
 else (p.1, ⟨#[]⟩, ⟨#[]⟩, [], p.2.1, p.2.2, lo1, false)
def patchR (l : List Int) : List ByteArray × ByteArray × ByteArray × List S48 × List Int × Int × Bool × Bool :=
 patchR2 (decide ((16 : Int) < (numR l 0).1)) (parentsR (decide ((16 : Int) < (numR l 0).1)) (if (16 : Int) < (numR l 0).1 then 0 else (numR l 0).1).toNat (numR l 0).2.1 (numR l 0).2.2 [])
set_option maxHeartbeats 8000000 in
set_option maxRecDepth 100000 in
theorem patch_calls (w0 w : World) (g gr : Nat) (l : List Int) (hR : PRd w0 w g gr l 0 false false) (hll : l.length < 140737488355328) (r : List ByteArray × ByteArray × ByteArray × List S48 × List Int × Int × Bool × Bool) (hr : patchR l = r) :
  Calls Tryd.prog 25 #[.pointer (some ⟨gr, 0, none⟩)] w fun e w' => ∃ v0 v3, e = .returned (.agg #[v0, .string r.2.1, .string r.2.2.1, v3]) ∧ Kd.R Kd.string 35 w' w.heap.size (fun _ => True) v0 r.1 ∧ Kd.R k48 48 w' w.heap.size (fun _ => True) v3 r.2.2.2.1 ∧ PRd w0 w' g gr r.2.2.2.2.1 r.2.2.2.2.2.1 r.2.2.2.2.2.2.1 r.2.2.2.2.2.2.2 ∧ Kept w w' (fun b => b = g ∨ b = gr) := by
 have hgw : g < w.heap.size := hR.glt
 have hrw : gr < w.heap.size := blk_lt hR.st
 have hww : w0.heap.size ≤ w.heap.size := hR.rdr.bel.size
 obtain ⟨Z, hZ⟩ : ∃ Z : Array Value, Z = #[.slice none 0 0, .string ⟨#[]⟩, .string ⟨#[]⟩, .slice none 0 0] := ⟨_, rfl⟩
 have e1 : (w.alloc (.cells Z 25)).heap.size = w.heap.size + 1 := by simp
 have hB : Below w.heap.size w ((w.alloc (.cells Z 25)).alloc (.cells Z 25)) := ((Below.refl _ _).alloc (Nat.le_refl _) _).alloc (by rw [e1]; omega) _
 have hS : PSt w0 w ((w.alloc (.cells Z 25)).alloc (.cells Z 25)) g gr l 0 false false (fun _ => True) (.slice none 0 0) (.slice none 0 0) [] ⟨#[]⟩ ⟨#[]⟩ [] := by
  refine ⟨hR.kept hB, ?_, ?_, Kd.R_nil _ _ _ _ _, Kd.R_nil _ _ _ _ _, Kept.of_below hB _, hgw, hrw, hww⟩
  · rw [← e1, ← hZ]; exact blk_new _ _
  · rw [← hZ]; exact zF (blk_new _ _) _
 rw [hZ] at hS
 have HM := Lib.hid (many_calls w0 _ g gr 16 (by decide) l 0 false false hS.rd)
 have HS := Lib.hid hS
 have HLL := Lib.hid hll
 have HRR := Lib.hid hr
 clear hS hll hr hB hZ e1 hR
 go_enter Tryd.func25, Tryd.ntmps25
 go_wp2_with fail
 refine HM.out.mono ?_
 rintro e W1 ⟨rfl, hP1, hk1⟩
 have hS1 := HS.out.call hP1 hk1
 have hn0 := numR_nonneg l 0
 have hl1 := numR_len l 0
 have hrr := HRR.out
 unfold patchR at hrr
 obtain ⟨q1, hq1⟩ : ∃ q, q = numR l 0 := ⟨_, rfl⟩
 rw [← hq1] at hS1 hn0 hl1 hrr ⊢
 obtain ⟨n1, l1, f1⟩ := q1
 simp only at hS1 hn0 hl1 hrr ⊢
 obtain ⟨N1, hN1⟩ : ∃ N : Nat, (N : Int) = (if (16 : Int) < n1 then 0 else n1) := ⟨(if (16 : Int) < n1 then 0 else n1).toNat, by split <;> omega⟩
 have hN16 : N1 ≤ 16 := by split at hN1 <;> omega
 obtain ⟨lo1, hlo1⟩ : ∃ b : Bool, b = decide ((16 : Int) < n1) := ⟨_, rfl⟩
 have hlo1' : (if (16 : Int) < n1 then true else false) = lo1 := by rw [hlo1]; by_cases h : (16 : Int) < n1 <;> simp [h]
 rw [show ((16 : Nat) : Int) = 16 from rfl] at hS1 ⊢
 rw [hlo1'] at hS1
 rw [← hlo1, ← hN1, Int.toNat_natCast] at hrr
 rw [← hN1]
 have HS1 := Lib.hid hS1
 have HQ1 := Lib.hid hq1
 have HN1 := Lib.hid hN1
 have HLO1 := Lib.hid hlo1
 have HL1 := Lib.hid (show l1.length < 140737488355328 by have := HLL.out; omega)
 clear hS1 hq1 hN1 hlo1 hlo1' hP1 hk1 HS hn0 hl1
 obtain ⟨P, hP⟩ : ∃ P, P = parentsR lo1 N1 l1 f1 [] := ⟨_, rfl⟩
 rw [← hP] at hrr
 clear HRR
 have HRR := Lib.hid hrr
 have HP := Lib.hid hP
 clear hP hrr
 go_wp2_with fail
 go_loopw [4] (fun v4 wq => ∃ (n : Nat) (l2 : List Int) (f2 : Int) (v0 : Value) (ps : List ByteArray), v4 = .int .i64 (n : Int) ∧ Hid (ps.length + n ≤ 16) ∧ Hid (l2.length < 140737488355328) ∧ Hid (parentsR lo1 n l2 f2 ps = P) ∧ Hid (PSt w0 w wq g gr l2 f2 lo1 false (fun _ => True) v0 (.slice none 0 0) ps ⟨#[]⟩ ⟨#[]⟩ [])) (fun v4 _ => (intOf v4).toNat)
 case atStart => exact ⟨N1, l1, f1, _, [], rfl, Lib.hid (by simpa using hN16), HL1, Lib.hid HP.out.symm, HS1⟩
 case round =>
  clear HS1 HL1 hN16
  obtain ⟨n, l2, f2, v0, ps, rfl, HPL, HL2, HPP, HSl⟩ := hrel
  obtain ⟨A0, c0, hv0, _, _⟩ := Kd.R_reads HSl.out.r0
  subst hv0
  obtain ⟨L0, hL0⟩ : ∃ x, x = ps.length := ⟨_, rfl⟩
  rw [← hL0] at HSl HPL
  have HL0 := Lib.hid hL0
  clear hL0
  have HGO := Lib.hid (fun W1 (h : W1 = wr) => goes_calls w0 wr g gr l2 f2 lo1 false HSl.out.rd)
  by_cases hn : n = 0
  ·
   have hb0 : decide ((0 : Int) < (n : Int)) = false := by simp [hn]
   have hb1 : decide (0 < n) = false := by simp [hn]
   have hP : P = (ps, l2, f2) := by rw [← HPP.out, hn]; rfl
   have HN0 := Lib.hid hn
   clear hn
   by_cases hgo : goesR f2 lo1 = true
   ·
    have hgo' : goesR f2 lo1 = true := hgo
    rw [hgo] at HGO
    go_wp2_with fail
    refine (HGO.out _ rfl).mono ?_
    rintro e W3 ⟨rfl, hW⟩
    rw [hW]
    clear hW W3 HGO
    have hr := HRR.out
    rw [hP] at hr
    unfold patchR2 at hr
    rw [if_pos hgo] at hr
    clear hP hgo hgo'
    have hta := text_calls w0 wr g 100 (by decide) (by decide) l2 f2 HSl.out.rd.rdr HL2.out
    have htal := textR_len 100 l2 f2
    rw [show ((100 : Nat) : Int) = 100 from rfl] at hta
    simp only at hr
    obtain ⟨ta, hxa⟩ : ∃ x, x = textR 100 l2 f2 := ⟨_, rfl⟩
    rw [← hxa] at hta htal hr
    obtain ⟨a1, la, fa⟩ := ta
    simp only at hta htal hr
    have HTA := Lib.hid hta
    have HLA := Lib.hid (show la.length < 140737488355328 by have := HL2.out; omega)
    have s1 := zD HSl.out.rd.st 0
    simp only [List.getElem?_toArray, List.getElem?_cons_zero, List.getElem?_cons_succ] at s1
    have HR := Lib.hid hr
    clear hta htal hxa hr
    go_wp2_with fail
    refine HTA.out.mono ?_
    rintro e W2 ⟨⟨Aa, ca, rfl, hc, hC⟩, hR2, hk2⟩
    have hS2 := HSl.out.text hR2 hk2
    have hcv := Kd.C_string (P := Tryd.prog) (dst := 9) (c := ca) Tryd.underlying26 Tryd.underlying5 Tryd.underlying9 hC
    have q1 := zD hS2.c3 1
    have q2 := zH hS2.c3 1
    obtain ⟨sa, hsa⟩ : ∃ x, x = strOfNums a1 := ⟨_, rfl⟩
    rw [← hsa] at hcv
    have hS3 := hS2.author sa
    have q3 := zD hS3.rd.st 0
    simp only [List.getElem?_toArray, List.getElem?_cons_zero, List.getElem?_cons_succ] at q1 q3
    have htb := text_calls w0 _ g 1000 (by decide) (by decide) la fa hS3.rd.rdr HLA.out
    have htbl := textR_len 1000 la fa
    rw [show ((1000 : Nat) : Int) = 1000 from rfl] at htb
    have hr := HR.out
    rw [← hsa] at hr
    obtain ⟨tb, hxb⟩ : ∃ x, x = textR 1000 la fa := ⟨_, rfl⟩
    rw [← hxb] at htb htbl hr
    obtain ⟨b1, lb, fb⟩ := tb
    simp only at htb htbl hr
    have HTB := Lib.hid htb
    have HLB := Lib.hid (show lb.length < 140737488355328 by have := HLA.out; omega)
    have HS3 := Lib.hid hS3
    clear HR
    have HR := Lib.hid hr
    clear htb htbl hxb hS3 hS2 hR2 hk2 hC hc hsa HTA HSl hr s1
    go_wp2_with fail
    refine HTB.out.mono ?_
    rintro e W4 ⟨⟨Ab, cb, rfl, hc, hC⟩, hR4, hk4⟩
    have hS4 := HS3.out.text hR4 hk4
    have hcv2 := Kd.C_string (P := Tryd.prog) (dst := 9) (c := cb) Tryd.underlying26 Tryd.underlying5 Tryd.underlying9 hC
    have q4 := zD hS4.c3 2
    have q5 := zH hS4.c3 2
    obtain ⟨sb, hsb⟩ : ∃ x, x = strOfNums b1 := ⟨_, rfl⟩
    rw [← hsb] at hcv2
    have hS5 := hS4.note sb
    simp only [List.getElem?_toArray, List.getElem?_cons_zero, List.getElem?_cons_succ] at q4
    have hm := many_calls w0 _ g gr 100 (by decide) lb fb lo1 false hS5.rd
    have hr := HR.out
    rw [← hsb] at hr
    have hn0 := numR_nonneg lb fb
    have hnl := numR_len lb fb
    obtain ⟨q6, hq6⟩ : ∃ x, x = numR lb fb := ⟨_, rfl⟩
    rw [← hq6] at hm hr hn0 hnl
    obtain ⟨n2, lc, fc⟩ := q6
    simp only at hm hr hn0 hnl
    obtain ⟨N2, hN2⟩ : ∃ N : Nat, (N : Int) = (if (100 : Int) < n2 then 0 else n2) := ⟨(if (100 : Int) < n2 then 0 else n2).toNat, by split <;> omega⟩
    have hN100 : N2 ≤ 100 := by split at hN2 <;> omega
    obtain ⟨lo2, hlo2⟩ : ∃ b : Bool, b = (if (100 : Int) < n2 then true else lo1) := ⟨_, rfl⟩
    rw [show ((100 : Nat) : Int) = 100 from rfl, ← hN2, ← hlo2] at hm
    rw [← hN2, ← hlo2, Int.toNat_natCast] at hr
    have HM2 := Lib.hid hm
    have HLC := Lib.hid (show lc.length < 140737488355328 by have := HLB.out; omega)
    have HS5 := Lib.hid hS5
    clear HR
    obtain ⟨C, hC2⟩ : ∃ C, C = changesR lo2 N2 lc fc false [] := ⟨_, rfl⟩
    rw [← hC2] at hr
    have HR := Lib.hid hr
    have HCC := Lib.hid hC2
    have HN100 := Lib.hid hN100
    clear hm hS5 hS4 hR4 hk4 hC hc hsb hq6 HTB HS3 hr hn0 hnl hN2 hlo2 hC2 hN100
    go_wp2_with fail
    refine HM2.out.mono ?_
    rintro e W6 ⟨rfl, hP6, hk6⟩
    have hS6 := HS5.out.call hP6 hk6
    have HS6 := Lib.hid hS6
    clear hS6 hP6 hk6 HM2 HS5
    go_wp2_with fail
    generalize (Value.int IntKind.i64 (n : Int)) = v4_
    go_loopw [5] (fun v5 wq => ∃ (n : Nat) (l2 : List Int) (f2 : Int) (od : Bool) (v3 : Value) (cs : List S48), v5 = .int .i64 (n : Int) ∧ Hid (cs.length + n ≤ 100) ∧ Hid (l2.length < 140737488355328) ∧ Hid (changesR lo2 n l2 f2 od cs = C) ∧ Hid (PSt w0 w wq g gr l2 f2 lo2 od (fun _ => True) (.slice A0 L0 c0) v3 ps sa sb cs)) (fun v5 _ => (intOf v5).toNat)
    case atStart => exact ⟨N2, lc, fc, false, _, [], rfl, Lib.hid (by simpa using HN100.out), HLC, Lib.hid HCC.out.symm, HS6⟩
    case round =>
     clear HS6 HLC HN100
     obtain ⟨m, lm, fm, od, v3, cs, rfl, HCL, HLM, HCM, HSm⟩ := hrel
     obtain ⟨A3, c3, hv3, _, _⟩ := Kd.R_reads HSm.out.r3
     subst hv3
     obtain ⟨L3, hL3⟩ : ∃ x, x = cs.length := ⟨_, rfl⟩
     rw [← hL3] at HSm HCL
     have HL3 := Lib.hid hL3
     clear hL3
     have HGO := Lib.hid (fun W1 (h : W1 = wr) => goes_calls w0 wr g gr lm fm lo2 od HSm.out.rd)
     by_cases hm : m = 0
     ·
      have hb0 : decide ((0 : Int) < (m : Int)) = false := by simp [hm]
      have hb1 : decide (0 < m) = false := by simp [hm]
      have hC : C = (cs, lm, fm, od) := by rw [← HCM.out, hm]; rfl
      have HM0 := Lib.hid hm
      clear hm
      go_wp2_with (first | refine wpList_load_row rfl 25 (Operand.tmp 3) rfl (w.heap.size + 1) rfl 25 _ (0, 0) _ HSm.out.c3 Tryd.underlying25 rfl size25 ?_ | refine wpList_store_row rfl 25 (Operand.tmp 2) (Operand.tmp 96) rfl w.heap.size #[.slice A0 L0 c0, .string sa, .string sb, .slice A3 L3 c3] rfl rfl 25 _ HSm.out.c2 size25 rfl (by simp [Value.oneCell']) ?_)
      have HE := Lib.hid (HSm.out.back)
      obtain ⟨k0, k1, k2, k3⟩ := HE.out.1
      refine bodyPost_ret (v := .agg #[.slice A0 L0 c0, .string sa, .string sb, .slice A3 L3 c3]) (by simp [results, Tryd.results25, go_sem, k0, k1, k2, k3]) rfl ?_
      have hr := HR.out
      rw [hC] at hr
      subst hr
      exact ⟨_, _, rfl, HE.out.2⟩
     ·
      obtain ⟨m', rfl⟩ : ∃ k, m = k + 1 := ⟨m - 1, by omega⟩
      have hCM := HCM.out
      unfold changesR at hCM
      have hmb : m' ≤ 100 := by have := HCL.out; omega
      by_cases hgo : goesR fm lo2 = true
      ·
       rw [if_pos hgo] at hCM
       rw [hgo] at HGO
       have hta := text_calls w0 wr g 200 (by decide) (by decide) lm fm HSm.out.rd.rdr HLM.out
       have htal := textR_len 200 lm fm
       rw [show ((200 : Nat) : Int) = 200 from rfl] at hta
       simp only at hCM
       obtain ⟨ta, hxa⟩ : ∃ x, x = textR 200 lm fm := ⟨_, rfl⟩
       rw [← hxa] at hta htal hCM
       obtain ⟨p1, ld, fd⟩ := ta
       simp only at hta htal hCM
       have HTA := Lib.hid hta
       have HLD := Lib.hid (show ld.length < 140737488355328 by have := HLM.out; omega)
       have s1 := zD HSm.out.rd.st 0
       simp only [List.getElem?_toArray, List.getElem?_cons_zero, List.getElem?_cons_succ] at s1
       have HCM' := Lib.hid hCM
       clear hta htal hxa hCM HCM hm hgo
       go_wp2_with fail
       refine (HGO.out _ rfl).mono ?_
       rintro e W3 ⟨rfl, hW⟩
       rw [hW]
       clear hW W3 HGO
       go_wp2_with fail
       refine HTA.out.mono ?_
       rintro e W2 ⟨⟨Aa, ca, rfl, hc, hC⟩, hR2, hk2⟩
       have hS2 := HSm.out.text hR2 hk2
       have hcv := Kd.C_string (P := Tryd.prog) (dst := 9) (c := ca) Tryd.underlying26 Tryd.underlying5 Tryd.underlying9 hC
       obtain ⟨sp, hsp⟩ : ∃ x, x = strOfNums p1 := ⟨_, rfl⟩
       rw [← hsp] at hcv
       have hCM := HCM'.out
       rw [← hsp] at hCM
       clear HCM'
       have HCM := Lib.hid hCM
       have HS2 := Lib.hid hS2
       have hS3 := (hS2.ok (Kd.R_elderB hS2.r3 W2.heap.size (Nat.le_refl _))).below (zC (Below.refl _ _) (.cells #[.string sp, .bool false, .string ⟨#[]⟩] 48))
       have k6 := blk_new W2 (.cells #[.string sp, .bool false, .string ⟨#[]⟩] 48 (0, 0))
       obtain ⟨p6, hp6⟩ : ∃ x, x = W2.heap.size := ⟨_, rfl⟩
       have hp6' : w.heap.size + 1 < p6 := by rw [hp6]; exact blk_lt hS2.c3
       rw [← hp6] at hS3 k6
       obtain ⟨W3, hW3⟩ : ∃ x, x = W2.alloc (.cells #[.string sp, .bool false, .string ⟨#[]⟩] 48) := ⟨_, rfl⟩
       rw [← hW3] at hS3 k6
       have s2 := zD hS3.rd.st 0
       simp only [List.getElem?_toArray, List.getElem?_cons_zero, List.getElem?_cons_succ] at s2
       have HS3 := Lib.hid hS3
       have K6 := Lib.hid k6
       clear hS2 hR2 hk2 hC hc hsp HTA HSm hCM s1 hS3 k6 HS2
       rw [hW3] at s2
       have HW3 := Lib.hid hW3
       have HP6 := Lib.hid hp6
       clear hW3 hp6
       go_wp2_with fail
       rw [← HW3.out, ← HP6.out]
       have hpg : p6 ≠ g := by have := HS3.out.gw; omega
       have hpr : p6 ≠ gr := by have := HS3.out.rw; omega
       have hnm := num_calls w0 W3 g ld fd HS3.out.rd.rdr
       have hnml := numR_len ld fd
       have hCM := HCM.out
       obtain ⟨q3, hq3⟩ : ∃ x, x = numR ld fd := ⟨_, rfl⟩
       rw [← hq3] at hnm hnml hCM
       obtain ⟨n3, le, fe⟩ := q3
       simp only at hnm hnml hCM
       have HNM := Lib.hid hnm
       have HLE := Lib.hid (show le.length < 140737488355328 by have := HLD.out; omega)
       have HCM1 := Lib.hid hCM
       clear hnm hnml hCM hq3 HCM s2
       refine HNM.out.mono ?_
       rintro e W4 ⟨rfl, hR4, hk4⟩
       have hS4 := HS3.out.text hR4 hk4
       have k4 := blk_kept K6.out hk4 hpg
       have y4 := zD hS4.rd.st 2
       have y5 := zD k4 1
       have y6 := zH k4 1
       simp only [List.getElem?_toArray, List.getElem?_cons_zero, List.getElem?_cons_succ] at y4 y5
       have HS4 := Lib.hid hS4
       have K4 := Lib.hid k4
       have hCM := HCM1.out
       clear hS4 k4 hR4 hk4 HNM HCM1
       cases od with
       | true =>
        have hS6 := (HS4.out.far (p := ⟨p6, 1, none⟩) hp6' (fun k hk => ((R_ne HS4.out.r0 K4.out (ht35 48 (by decide))).1 k hk).2) (fun k hk => hk.2) ⟨_, 48, K4.out, by decide⟩ (.bool (n3 == 1))).odd true
        have k5 := blk_set K4.out 1 (.bool (n3 == 1))
        have k6 := blk_far k5 (p := ⟨gr, 2, none⟩) (show p6 ≠ gr from hpr) (.bool true)
        have x1 := zD hS6.rd.st 0
        have g5 := blk_far HS4.out.rd.st (p := ⟨p6, 1, none⟩) (fun h => hpr h.symm) (.bool (n3 == 1))
        have x2 := zD g5 2
        have x3 := zH g5 2
        simp only [List.getElem?_toArray, List.getElem?_cons_zero, List.getElem?_cons_succ] at x1 x2
        simp only [List.setIfInBounds_toArray, List.set_cons_zero, List.set_cons_succ] at k6
        have hod : (true || decide (n3 > 1)) = true := rfl
        rw [hod] at hCM
        have htb := text_calls w0 _ g 65536 (by decide) (by decide) le fe hS6.rd.rdr HLE.out
        have htbl := textR_len 65536 le fe
        rw [show ((65536 : Nat) : Int) = 65536 from rfl] at htb
        obtain ⟨tb, hxb⟩ : ∃ x, x = textR 65536 le fe := ⟨_, rfl⟩
        rw [← hxb] at htb htbl hCM
        obtain ⟨t1, lf, ff⟩ := tb
        simp only at htb htbl hCM
        have HTB := Lib.hid htb
        have HLF := Lib.hid (show lf.length < 140737488355328 by have := HLE.out; omega)
        have HS6 := Lib.hid hS6
        have K6' := Lib.hid k6
        have HCM2 := Lib.hid hCM
        clear htb htbl hxb hS6 k5 k6 g5 hCM hod
        go_wp2_with fail
        refine HTB.out.mono ?_
        rintro e W7 ⟨⟨Ab, cb, rfl, hc, hC⟩, hR7, hk7⟩
        have hS7 := HS6.out.text hR7 hk7
        have k7 := blk_kept K6'.out hk7 hpg
        have hcv2 := Kd.C_string (P := Tryd.prog) (dst := 9) (c := cb) Tryd.underlying26 Tryd.underlying5 Tryd.underlying9 hC
        obtain ⟨st, hst⟩ : ∃ x, x = strOfNums t1 := ⟨_, rfl⟩
        rw [← hst] at hcv2
        have hCM := HCM2.out
        rw [← hst] at hCM
        have y1 := zD k7 2
        have y2 := zH k7 2
        have hS8 := hS7.far (p := ⟨p6, 2, none⟩) hp6' (fun k hk => ((R_ne hS7.r0 k7 (ht35 48 (by decide))).1 k hk).2) (fun k hk => hk.2) ⟨_, 48, k7, by decide⟩ (.string st)
        have k8 := blk_set k7 2 (.string st)
        have y3 := zD hS8.c3 3
        simp only [List.getElem?_toArray, List.getElem?_cons_zero, List.getElem?_cons_succ] at y1 y3
        simp only [List.setIfInBounds_toArray, List.set_cons_zero, List.set_cons_succ] at k8
        obtain ⟨W8, hW8⟩ : ∃ x, x = W7.setCell ⟨p6, 2, none⟩ (.string st) := ⟨_, rfl⟩
        have hp8 : p6 < W8.heap.size := by rw [hW8]; exact blk_lt k8
        have HSZ := Lib.hid (show W8.heap.size = W7.heap.size by rw [hW8]; simp)
        have HS8 := Lib.hid hS8
        have K8 := Lib.hid k8
        have HCM3 := Lib.hid hCM
        rw [← hW8] at HS8 K8
        have HW8 := Lib.hid hW8
        clear hS7 k7 hC hc hst hCM hS8 k8 hR7 hk7 hW8 HTB HS6 K6' HCM2
        go_wp2_with (first | refine wpList_load_row rfl 48 (Operand.tmp 6) rfl p6 rfl 48 #[.string sp, .bool (n3 == 1), .string st] (0, 0) _ (by rw [← HW8.out]; exact K8.out) Tryd.underlying48 rfl size48 ?_ | ((with_reducible refine gate_builtin (b := .append) (xs := #[.tmp 91, .tmp 93]) rfl ?_); at_builtin; go_must (rw [← HW8.out, ← HSZ.out]; refine Kd.R_append k48 (w0 := W8) w.heap.size rfl (.tmp 91) (.tmp 93) 23 48 (.agg #[(.string ⟨#[]⟩), (.bool false), (.string ⟨#[]⟩)]) 40 rfl Tryd.underlying23 info48 rfl (by decide) (by omega) (.slice A3 L3 c3) cs ⟨sp, n3 == 1, st⟩ [.string sp, .bool (n3 == 1), .string st] (fun k => True ∧ k ≠ p6) (fun _ => False) rfl rfl (k48_mkM _ _ _ ⟨sp, n3 == 1, st⟩) (fun _ hk => hk.elim) (fun k hk => ⟨trivial, by omega⟩) HS8.out.r3 ((Below.refl _ W8).mono HS8.out.kp.1) HS8.out.kp.1 (by have := HCL.out; have := HL3.out; omega) ?_; intro v3' W9 ho hb hg hat; obtain ⟨A9, c9, hv9, _, _⟩ := Kd.R_reads ho; rw [List.length_append, List.length_singleton, ← HL3.out] at hv9; subst hv9; obtain ⟨z1, z2⟩ := HS8.out.far3 hb hg; have hS9 := HS8.out.changes _ _ ho hb hg; have HS9 := Lib.hid (hS9.ok (Kd.R_mono hS9.r3 (fun _ _ => trivial))); clear ho hb hg hat hS9)))
        go_roundw
        case rel => exact ⟨m', _, _, _, _, _, by go_num, Lib.hid (by have := HCL.out; have := HL3.out; rw [List.length_append, List.length_singleton]; omega), HLF, HCM3, HS9⟩
        case measure => simp [intOf] <;> omega
       | false =>
        have hS6 := (HS4.out.far (p := ⟨p6, 1, none⟩) hp6' (fun k hk => ((R_ne HS4.out.r0 K4.out (ht35 48 (by decide))).1 k hk).2) (fun k hk => hk.2) ⟨_, 48, K4.out, by decide⟩ (.bool (n3 == 1))).odd (decide (1 < n3))
        have k5 := blk_set K4.out 1 (.bool (n3 == 1))
        have k6 := blk_far k5 (p := ⟨gr, 2, none⟩) (show p6 ≠ gr from hpr) (.bool (decide (1 < n3)))
        have x1 := zD hS6.rd.st 0
        have g5 := blk_far HS4.out.rd.st (p := ⟨p6, 1, none⟩) (fun h => hpr h.symm) (.bool (n3 == 1))
        have x2 := zD g5 2
        have x3 := zH g5 2
        simp only [List.getElem?_toArray, List.getElem?_cons_zero, List.getElem?_cons_succ] at x1 x2
        simp only [List.setIfInBounds_toArray, List.set_cons_zero, List.set_cons_succ] at k6
        have hod : (false || decide (n3 > 1)) = decide (1 < n3) := rfl
        rw [hod] at hCM
        have htb := text_calls w0 _ g 65536 (by decide) (by decide) le fe hS6.rd.rdr HLE.out
        have htbl := textR_len 65536 le fe
        rw [show ((65536 : Nat) : Int) = 65536 from rfl] at htb
        obtain ⟨tb, hxb⟩ : ∃ x, x = textR 65536 le fe := ⟨_, rfl⟩
        rw [← hxb] at htb htbl hCM
        obtain ⟨t1, lf, ff⟩ := tb
        simp only at htb htbl hCM
        have HTB := Lib.hid htb
        have HLF := Lib.hid (show lf.length < 140737488355328 by have := HLE.out; omega)
        have HS6 := Lib.hid hS6
        have K6' := Lib.hid k6
        have HCM2 := Lib.hid hCM
        clear htb htbl hxb hS6 k5 k6 g5 hCM hod
        go_wp2_with fail
        refine HTB.out.mono ?_
        rintro e W7 ⟨⟨Ab, cb, rfl, hc, hC⟩, hR7, hk7⟩
        have hS7 := HS6.out.text hR7 hk7
        have k7 := blk_kept K6'.out hk7 hpg
        have hcv2 := Kd.C_string (P := Tryd.prog) (dst := 9) (c := cb) Tryd.underlying26 Tryd.underlying5 Tryd.underlying9 hC
        obtain ⟨st, hst⟩ : ∃ x, x = strOfNums t1 := ⟨_, rfl⟩
        rw [← hst] at hcv2
        have hCM := HCM2.out
        rw [← hst] at hCM
        have y1 := zD k7 2
        have y2 := zH k7 2
        have hS8 := hS7.far (p := ⟨p6, 2, none⟩) hp6' (fun k hk => ((R_ne hS7.r0 k7 (ht35 48 (by decide))).1 k hk).2) (fun k hk => hk.2) ⟨_, 48, k7, by decide⟩ (.string st)
        have k8 := blk_set k7 2 (.string st)
        have y3 := zD hS8.c3 3
        simp only [List.getElem?_toArray, List.getElem?_cons_zero, List.getElem?_cons_succ] at y1 y3
        simp only [List.setIfInBounds_toArray, List.set_cons_zero, List.set_cons_succ] at k8
        obtain ⟨W8, hW8⟩ : ∃ x, x = W7.setCell ⟨p6, 2, none⟩ (.string st) := ⟨_, rfl⟩
        have hp8 : p6 < W8.heap.size := by rw [hW8]; exact blk_lt k8
        have HSZ := Lib.hid (show W8.heap.size = W7.heap.size by rw [hW8]; simp)
        have HS8 := Lib.hid hS8
        have K8 := Lib.hid k8
        have HCM3 := Lib.hid hCM
        rw [← hW8] at HS8 K8
        have HW8 := Lib.hid hW8
        clear hS7 k7 hC hc hst hCM hS8 k8 hR7 hk7 hW8 HTB HS6 K6' HCM2
        go_wp2_with (first | refine wpList_load_row rfl 48 (Operand.tmp 6) rfl p6 rfl 48 #[.string sp, .bool (n3 == 1), .string st] (0, 0) _ (by rw [← HW8.out]; exact K8.out) Tryd.underlying48 rfl size48 ?_ | ((with_reducible refine gate_builtin (b := .append) (xs := #[.tmp 91, .tmp 93]) rfl ?_); at_builtin; go_must (rw [← HW8.out, ← HSZ.out]; refine Kd.R_append k48 (w0 := W8) w.heap.size rfl (.tmp 91) (.tmp 93) 23 48 (.agg #[(.string ⟨#[]⟩), (.bool false), (.string ⟨#[]⟩)]) 40 rfl Tryd.underlying23 info48 rfl (by decide) (by omega) (.slice A3 L3 c3) cs ⟨sp, n3 == 1, st⟩ [.string sp, .bool (n3 == 1), .string st] (fun k => True ∧ k ≠ p6) (fun _ => False) rfl rfl (k48_mkM _ _ _ ⟨sp, n3 == 1, st⟩) (fun _ hk => hk.elim) (fun k hk => ⟨trivial, by omega⟩) HS8.out.r3 ((Below.refl _ W8).mono HS8.out.kp.1) HS8.out.kp.1 (by have := HCL.out; have := HL3.out; omega) ?_; intro v3' W9 ho hb hg hat; obtain ⟨A9, c9, hv9, _, _⟩ := Kd.R_reads ho; rw [List.length_append, List.length_singleton, ← HL3.out] at hv9; subst hv9; obtain ⟨z1, z2⟩ := HS8.out.far3 hb hg; have hS9 := HS8.out.changes _ _ ho hb hg; have HS9 := Lib.hid (hS9.ok (Kd.R_mono hS9.r3 (fun _ _ => trivial))); clear ho hb hg hat hS9)))
        go_roundw
        case rel => exact ⟨m', _, _, _, _, _, by go_num, Lib.hid (by have := HCL.out; have := HL3.out; rw [List.length_append, List.length_singleton]; omega), HLF, HCM3, HS9⟩
        case measure => simp [intOf] <;> omega
      ·
       rw [if_neg hgo] at hCM
       have hC : C = (cs, lm, fm, od) := hCM.symm
       have hgf : goesR fm lo2 = false := by simpa using hgo
       rw [hgf] at HGO
       clear hCM hm
       go_wp2_with fail
       refine (HGO.out _ rfl).mono ?_
       rintro e W3 ⟨rfl, hW⟩
       rw [hW]
       clear hW W3 HGO
       go_wp2_with (first | refine wpList_load_row rfl 25 (Operand.tmp 3) rfl (w.heap.size + 1) rfl 25 _ (0, 0) _ HSm.out.c3 Tryd.underlying25 rfl size25 ?_ | refine wpList_store_row rfl 25 (Operand.tmp 2) (Operand.tmp 96) rfl w.heap.size #[.slice A0 L0 c0, .string sa, .string sb, .slice A3 L3 c3] rfl rfl 25 _ HSm.out.c2 size25 rfl (by simp [Value.oneCell']) ?_)
       have HE := Lib.hid (HSm.out.back)
       obtain ⟨k0, k1, k2, k3⟩ := HE.out.1
       refine bodyPost_ret (v := .agg #[.slice A0 L0 c0, .string sa, .string sb, .slice A3 L3 c3]) (by simp [results, Tryd.results25, go_sem, k0, k1, k2, k3]) rfl ?_
       have hr := HR.out
       rw [hC] at hr
       subst hr
       exact ⟨_, _, rfl, HE.out.2⟩
   ·
    have hgf : goesR f2 lo1 = false := by simpa using hgo
    rw [hgf] at HGO
    go_wp2_with fail
    refine (HGO.out _ rfl).mono ?_
    rintro e W3 ⟨rfl, hW⟩
    rw [hW]
    clear hW W3 HGO
    go_wp2_with (first | refine wpList_load_row rfl 25 (Operand.tmp 3) rfl (w.heap.size + 1) rfl 25 _ (0, 0) _ HSl.out.c3 Tryd.underlying25 rfl size25 ?_ | refine wpList_store_row rfl 25 (Operand.tmp 2) (Operand.tmp 32) rfl w.heap.size #[.slice A0 L0 c0, .string ⟨#[]⟩, .string ⟨#[]⟩, .slice none 0 0] rfl rfl 25 _ HSl.out.c2 size25 rfl (by simp [Value.oneCell']) ?_)
    have HE := Lib.hid (HSl.out.back)
    obtain ⟨k0, k1, k2, k3⟩ := HE.out.1
    refine bodyPost_ret (v := .agg #[.slice A0 L0 c0, .string ⟨#[]⟩, .string ⟨#[]⟩, .slice none 0 0]) (by simp [results, Tryd.results25, go_sem, k0, k1, k2, k3]) rfl ?_
    have hr := HRR.out
    rw [hP] at hr
    unfold patchR2 at hr
    rw [if_neg hgo] at hr
    subst hr
    exact ⟨_, _, rfl, HE.out.2⟩
  ·
   obtain ⟨n', rfl⟩ : ∃ k, n = k + 1 := ⟨n - 1, by omega⟩
   have hPP := HPP.out
   unfold parentsR at hPP
   by_cases hgo : goesR f2 lo1 = true
   ·
    rw [if_pos hgo] at hPP
    rw [hgo] at HGO
    have HPP' := Lib.hid hPP
    have hnb : n' ≤ 16 := by have := HPL.out; omega
    have HG1 := Lib.hid hgo
    clear hPP HPP hn hgo
    have s0 := zD HSl.out.c3 0
    have s1 := zD HSl.out.rd.st 0
    simp only [List.getElem?_toArray, List.getElem?_cons_zero, List.getElem?_cons_succ] at s0 s1
    go_wp2_with fail
    refine (HGO.out _ rfl).mono ?_
    rintro e W3 ⟨rfl, hW⟩
    rw [hW]
    clear hW W3
    go_wp2_with fail
    refine start_ (n := 12) (S := (fun w' => w'.cell? ⟨w.heap.size + 1, 0, none⟩ = some (.slice A0 L0 c0) ∧ w'.cell? ⟨gr, 0, none⟩ = some (.pointer (some ⟨g, 0, none⟩)))) (ds := [11]) #[false, false, false, false, false, false, false, false, false, false, false, false] (by kernel_rfl) rfl rfl ⟨s0, s1⟩ (fun hHeld => ?_)
    obtain ⟨Wd, hWd⟩ : ∃ x, x = wr.drew := ⟨_, rfl⟩
    rw [← hWd] at hHeld ⊢
    have hSd : PSt w0 w Wd g gr l2 f2 lo1 false (fun _ => True) (.slice A0 L0 c0) (.slice none 0 0) ps ⟨#[]⟩ ⟨#[]⟩ [] := by rw [hWd]; exact HSl.out.below ⟨rfl, rfl, rfl, Nat.le_refl _, fun _ _ => rfl⟩
    have htx := text_calls w0 Wd g 32 (by decide) (by decide) l2 f2 hSd.rd.rdr HL2.out
    have htl := textR_len 32 l2 f2
    rw [show ((32 : Nat) : Int) = 32 from rfl] at htx
    obtain ⟨tx, hx⟩ : ∃ x, x = textR 32 l2 f2 := ⟨_, rfl⟩
    rw [← hx] at htx htl HPP'
    obtain ⟨t1, l3, f3⟩ := tx
    simp only at htx htl HPP'
    have HTX := Lib.hid htx
    have HL3 := Lib.hid (show l3.length < 140737488355328 by have := HL2.out; omega)
    have HSd := Lib.hid hSd
    clear hWd hSd s0 s1 HSl HGO htx htl hx
    refine pure_ (i := 0) (N := some 18) (v := ?_) (a' := ?_) #[true, false, false, false, false, false, false, false, false, false, false, false] rfl rfl (by kernel_rfl) (fun _ _ _ h => h) (Or.inl ⟨by rfl, ?_⟩) ?_ ?_
    rotate_left
    ·
     intro w'
     go_simp
     with_reducible rfl
    rotate_left
    ·
     simp only [Act.put, List.setIfInBounds_toArray, List.set_cons_zero, List.set_cons_succ, i64_w, i32_w]
     rfl
    refine take_ (i := 1) (N := some 19) (v := ?_) (a' := ?_) #[true, true, false, false, false, false, false, false, false, false, false, false] rfl rfl (by kernel_rfl) (fun _ _ _ h => h) (Or.inl ⟨by rfl, ?_⟩) hHeld ?_ ?_
    rotate_left
    ·
     rintro w' ⟨r0, r1⟩
     go_simp
     with_reducible rfl
    rotate_left
    ·
     simp only [Act.put, List.setIfInBounds_toArray, List.set_cons_zero, List.set_cons_succ, i64_w, i32_w]
     rfl
    refine pure_ (i := 2) (N := some 20) (v := ?_) (a' := ?_) #[true, true, true, false, false, false, false, false, false, false, false, false] rfl rfl (by kernel_rfl) (fun _ _ _ h => h) (Or.inl ⟨by rfl, ?_⟩) ?_ ?_
    rotate_left
    ·
     intro w'
     go_simp
     with_reducible rfl
    rotate_left
    ·
     simp only [Act.put, List.setIfInBounds_toArray, List.set_cons_zero, List.set_cons_succ, i64_w, i32_w]
     rfl
    refine pure_ (i := 3) (N := some 21) (v := ?_) (a' := ?_) #[true, true, true, true, false, false, false, false, false, false, false, false] rfl rfl (by kernel_rfl) (fun _ _ _ h => h) (Or.inl ⟨by rfl, ?_⟩) ?_ ?_
    rotate_left
    ·
     intro w'
     go_simp
     with_reducible rfl
    rotate_left
    ·
     simp only [Act.put, List.setIfInBounds_toArray, List.set_cons_zero, List.set_cons_succ, i64_w, i32_w]
     rfl
    refine pure_ (i := 4) (N := some 22) (v := ?_) (a' := ?_) #[true, true, true, true, true, false, false, false, false, false, false, false] rfl rfl (by kernel_rfl) (fun _ _ _ h => h) (Or.inl ⟨by rfl, ?_⟩) ?_ ?_
    rotate_left
    ·
     intro w'
     go_simp
     with_reducible rfl
    rotate_left
    ·
     simp only [Act.put, List.setIfInBounds_toArray, List.set_cons_zero, List.set_cons_succ, i64_w, i32_w]
     rfl
    refine take_ (i := 5) (N := some 23) (v := ?_) (a' := ?_) #[true, true, true, true, true, true, false, false, false, false, false, false] rfl rfl (by kernel_rfl) (fun _ _ _ h => h) (Or.inl ⟨by rfl, ?_⟩) hHeld ?_ ?_
    rotate_left
    ·
     rintro w' ⟨r0, r1⟩
     go_simp
     with_reducible rfl
    rotate_left
    ·
     simp only [Act.put, List.setIfInBounds_toArray, List.set_cons_zero, List.set_cons_succ, i64_w, i32_w]
     rfl
    refine one_ (i := 6) (N := some 24) #[true, true, true, true, true, true, true, false, false, false, false, false] rfl rfl (by kernel_rfl) (by decide) (fun K hK => ?_)
    refine goes_ Tryd.func46 (by kernel_rfl) rfl #[.pointer (some ⟨g, 0, none⟩), .int .i64 32] (by rfl) rfl rfl (by simp only [List.map_toArray, List.map_cons, List.map_nil]; first | rfl | (simp only [Act.eval]; rfl)) ?_
    refine HTX.out.mono ?_
    rintro e W2 ⟨⟨A, c, rfl, hc, hC⟩, hR2, hk2⟩
    refine ⟨_, rfl, ?_⟩
    have hS2 := HSd.out.text hR2 hk2
    have s0 := zD hS2.c3 0
    have s1 := zD hS2.rd.st 0
    simp only [List.getElem?_toArray, List.getElem?_cons_zero, List.getElem?_cons_succ] at s0 s1
    have hcv := Kd.C_string (P := Tryd.prog) (dst := 35) (c := c) Tryd.underlying26 Tryd.underlying5 Tryd.underlying35 hC
    have HS2 := Lib.hid hS2
    clear hS2 hR2 hk2 hC hc HSd HTX
    refine hK.out _ _ ⟨s0, s1⟩ (fun hHeld2 => ?_)
    clear hK K
    refine norm_ (a' := ?_) ?_ ?_
    rotate_left
    ·
     show Act.put _ (some 24) _ = _
     simp only [Act.put, List.setIfInBounds_toArray, List.set_cons_zero, List.set_cons_succ, i64_w, i32_w]
     rfl
    refine one_ (i := 7) (N := some 25) #[true, true, true, true, true, true, true, true, false, false, false, false] rfl rfl (by kernel_rfl) (by decide) (fun K hK => ?_)
    refine value_ (w1 := ?_) (v := ?_) (by rfl) rfl ?_ ?_
    rotate_left 2
    ·
     go_simp
     constructor
     · rfl
     · rfl
    refine hK.out _ _ ⟨s0, s1⟩ (fun hHeld3 => ?_)
    clear hK K
    refine norm_ (a' := ?_) ?_ ?_
    rotate_left
    ·
     show Act.put _ (some 25) _ = _
     simp only [Act.put, List.setIfInBounds_toArray, List.set_cons_zero, List.set_cons_succ, i64_w, i32_w]
     rfl
    refine one_ (i := 8) (N := some 26) #[true, true, true, true, true, true, true, true, true, false, false, false] rfl rfl (by kernel_rfl) (by decide) (fun K hK => ?_)
    refine value_ (w1 := ?_) (v := ?_) (by rfl) rfl ?_ ?_
    rotate_left 2
    ·
     go_simp
     constructor
     · rfl
     · rfl
    refine hK.out _ _ ⟨(World.cell?_alloc_lt _ _ _ (World.block_lt_of_cell? _ _ s0)).trans s0, (World.cell?_alloc_lt _ _ _ (World.block_lt_of_cell? _ _ s1)).trans s1⟩ (fun hHeld4 => ?_)
    clear hK K
    refine norm_ (a' := ?_) ?_ ?_
    rotate_left
    ·
     show Act.put _ (some 26) _ = _
     simp only [Act.put, List.setIfInBounds_toArray, List.set_cons_zero, List.set_cons_succ, i64_w, i32_w]
     rfl
    refine one_ (i := 9) (N := some 27) #[true, true, true, true, true, true, true, true, true, true, false, false] rfl rfl (by kernel_rfl) (by decide) (fun K hK => ?_)
    refine Kd.R_append_step Kd.string (w0 := W2) w.heap.size (by rfl) (.tmp 19) (.tmp 26) 22 35 (.string ⟨#[]⟩) 16 rfl Tryd.underlying22 info35 rfl (by decide) (by omega) (.slice A0 L0 c0) ps (strOfNums t1) [.string (strOfNums t1)] (fun _ => True) (fun _ => False) (by first | rfl | (simp only [Act.eval]; rfl)) (by first | rfl | (simp only [Act.eval]; rfl)) rfl (fun _ hk => hk.elim) (fun _ _ => trivial) HS2.out.r0 ((Below.refl _ W2).mono HS2.out.kp.1) HS2.out.kp.1 (by have := HPL.out; have := HL0.out; omega) ?_
    intro v0' W3 ho hb hg hat
    obtain ⟨A0', c0', hv', _, _⟩ := Kd.R_reads ho
    rw [List.length_append, List.length_singleton, ← HL0.out] at hv'
    subst hv'
    have s0' := HS2.out.far0 hb hg
    have hS3 := HS2.out.parents _ _ ho hb hg
    have HS3 := Lib.hid hS3
    clear ho hb hg hat hS3
    refine hK.out _ _ ⟨s0'.1, s0'.2.1⟩ (fun hHeld5 => ?_)
    clear hK K
    refine norm_ (a' := ?_) ?_ ?_
    rotate_left
    ·
     show Act.put _ (some 27) _ = _
     simp only [Act.put, List.setIfInBounds_toArray, List.set_cons_zero, List.set_cons_succ, i64_w, i32_w]
     rfl
    refine pure_ (i := 10) (N := some 28) (v := ?_) (a' := ?_) #[true, true, true, true, true, true, true, true, true, true, true, false] rfl rfl (by kernel_rfl) (fun _ _ _ h => h) (Or.inl ⟨by rfl, ?_⟩) ?_ ?_
    rotate_left
    ·
     intro w'
     go_simp
     with_reducible rfl
    rotate_left
    ·
     simp only [Act.put, List.setIfInBounds_toArray, List.set_cons_zero, List.set_cons_succ, i64_w, i32_w]
     rfl
    refine last_ (i := 11) (N := none) #[true, true, true, true, true, true, true, true, true, true, true, true] rfl rfl (by kernel_rfl) (by decide) (fun K hK => ?_)
    obtain ⟨q1_, q2_, q3_⟩ := s0'
    refine skip_ (w1 := ?_) (by rfl) rfl ?_ ?_
    rotate_left
    ·
     go_simp
     rfl
    refine hK.out _ _ ?_
    clear hK K
    refine done_ (by kernel_rfl) ?_
    go_wp2_with fail
    go_roundw
    case rel => exact ⟨n', _, _, _, _, by go_num, Lib.hid (by have := HPL.out; have := HL0.out; rw [List.length_append, List.length_singleton]; omega), HL3, HPP', HS3⟩
    case measure => simp [intOf] <;> omega
   ·
    rw [if_neg hgo] at hPP
    have hP : P = (ps, l2, f2) := hPP.symm
    have hgf : goesR f2 lo1 = false := by simpa using hgo
    rw [hgf] at HGO
    clear hPP hn
    go_wp2_with fail
    refine (HGO.out _ rfl).mono ?_
    rintro e W3 ⟨rfl, hW⟩
    rw [hW]
    clear hW W3
    go_wp2_with fail
    refine (HGO.out _ rfl).mono ?_
    rintro e W3 ⟨rfl, hW⟩
    rw [hW]
    clear hW W3 HGO
    go_wp2_with (first | refine wpList_load_row rfl 25 (Operand.tmp 3) rfl (w.heap.size + 1) rfl 25 _ (0, 0) _ HSl.out.c3 Tryd.underlying25 rfl size25 ?_ | refine wpList_store_row rfl 25 (Operand.tmp 2) (Operand.tmp 32) rfl w.heap.size #[.slice A0 L0 c0, .string ⟨#[]⟩, .string ⟨#[]⟩, .slice none 0 0] rfl rfl 25 _ HSl.out.c2 size25 rfl (by simp [Value.oneCell']) ?_)
    have HE := Lib.hid (HSl.out.back)
    obtain ⟨k0, k1, k2, k3⟩ := HE.out.1
    refine bodyPost_ret (v := .agg #[.slice A0 L0 c0, .string ⟨#[]⟩, .string ⟨#[]⟩, .slice none 0 0]) (by simp [results, Tryd.results25, go_sem, k0, k1, k2, k3]) rfl ?_
    have hr := HRR.out
    rw [hP] at hr
    unfold patchR2 at hr
    rw [if_neg hgo] at hr
    subst hr
    exact ⟨_, _, rfl, HE.out.2⟩
end Go.Proofs.YtembjjombhfglaaDoor.G
