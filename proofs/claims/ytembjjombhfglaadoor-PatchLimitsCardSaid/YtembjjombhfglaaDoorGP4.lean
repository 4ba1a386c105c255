import Derived.Test.YtembjjombhfglaaDoorGP3
namespace Go.Proofs.YtembjjombhfglaaDoor.G
open Go.RowKit Go.Proofs.YtembjjombhfglaaDoorW.PrintWords Go.Proofs.YtembjjombhfglaaDoorW.PrintLast Go.Proofs.YtembjjombhfglaaDoorW.PrintMore
set_option linter.unusedVariables false
set_option linter.unusedSimpArgs false
structure PRd (w0 w : World) (g gr : Nat) (l : List Int) (f : Int) (lo od : Bool) : Prop where
 rdr : Rdr w0 w g l f
 st : w.heap[gr]? = some (.cells #[.pointer (some ⟨g, 0, none⟩), .bool lo, .bool od] 57 (0, 0))
 ne : g ≠ gr
 ge : w0.heap.size ≤ gr
theorem PRd.glt {w0 w : World} {g gr : Nat} {l : List Int} {f : Int} {lo od : Bool} (h : PRd w0 w g gr l f lo od) : g < w.heap.size := by obtain ⟨A, c, h1, _⟩ := h.rdr.ex; exact blk_lt h1
theorem PRd.kept {w0 w w' : World} {g gr : Nat} {l : List Int} {f : Int} {lo od : Bool} (h : PRd w0 w g gr l f lo od) (hb : Below w.heap.size w w') : PRd w0 w' g gr l f lo od :=
 ⟨h.rdr.kept hb, zM h.st hb, h.ne, h.ge⟩
theorem PRd.far {w0 w : World} {g gr : Nat} {l : List Int} {f : Int} {lo od : Bool} (h : PRd w0 w g gr l f lo od) {p : Addr} (h1 : g ≠ p.block) (h2 : gr ≠ p.block) (hw : w0.heap.size ≤ p.block) (u : Value) : PRd w0 (w.setCell p u) g gr l f lo od :=
 ⟨h.rdr.far h1 hw u, blk_far h.st h2 u, h.ne, h.ge⟩
theorem PRd.grown {w0 w w' : World} {g gr : Nat} {l : List Int} {f : Int} {lo od : Bool} (h : PRd w0 w g gr l f lo od) {row : Option Nat} (hg : w.grownBy w' row) (h1 : some g ≠ row) (h2 : some gr ≠ row) (hb : Below w0.heap.size w0 w') : PRd w0 w' g gr l f lo od := by
 obtain ⟨A, c, k1, k2, k3⟩ := h.rdr.ex
 exact ⟨⟨⟨A, c, blk_grown k1 hg h1, k2, k3⟩, h.rdr.ge, hb⟩, blk_grown h.st hg h2, h.ne, h.ge⟩
set_option maxHeartbeats 8000000 in
set_option maxRecDepth 100000 in
theorem fail_calls (w0 w : World) (g : Nat) (l : List Int) (f : Int) (hR : Rdr w0 w g l f) : Calls Tryd.prog 58 #[.pointer (some ⟨g, 0, none⟩)] w fun e w' => e = .returned (.int .i64 f) ∧ w' = w := by
 obtain ⟨A, c, h1, h2, h3⟩ := hR.ex
 have c2 := zD h1 1
 simp only [List.getElem?_toArray, List.getElem?_cons_zero, List.getElem?_cons_succ] at c2
 clear hR h1 h3
 go_enter Tryd.func58, Tryd.ntmps58
 go_wp2_with fail
 go_ret
 exact ⟨rfl, rfl⟩
def endR (l : List Int) (f : Int) : Int := if f = 0 ∧ 0 < l.length then 5 else f
set_option maxHeartbeats 8000000 in
set_option maxRecDepth 100000 in
theorem end_calls (w0 w : World) (g : Nat) (l : List Int) (f : Int) (hR : Rdr w0 w g l f) : Calls Tryd.prog 26 #[.pointer (some ⟨g, 0, none⟩)] w fun e w' => e = .returned (.int .i64 (endR l f)) ∧ w' = w := by
 obtain ⟨A, c, h1, h2, h3⟩ := hR.ex
 have c1 := zD h1 0
 have c2 := zD h1 1
 simp only [List.getElem?_toArray, List.getElem?_cons_zero, List.getElem?_cons_succ] at c1 c2
 clear hR h1 h3
 by_cases hf : f = 0
 ·
  subst hf
  by_cases hl : 0 < l.length
  ·
   go_enter Tryd.func26, Tryd.ntmps26
   go_wp2_with fail
   go_ret
   exact ⟨by unfold endR; rw [if_pos ⟨rfl, hl⟩]; rfl, rfl⟩
  ·
   have hl0 : l.length = 0 := by omega
   have hb : decide (0 < l.length) = false := by simp [hl0]
   have HL := Lib.hid hl
   clear hl hl0
   go_enter Tryd.func26, Tryd.ntmps26
   go_wp2_with fail
   go_ret
   exact ⟨by unfold endR; rw [if_neg (fun h => HL.out h.2)]; rfl, rfl⟩
 ·
  have hb : (f == 0) = false := by simp [hf]
  have HF := Lib.hid hf
  clear hf
  go_enter Tryd.func26, Tryd.ntmps26
  go_wp2_with fail
  go_ret
  exact ⟨by unfold endR; rw [if_neg (fun h => HF.out h.1)]; rfl, rfl⟩
def goesR (f : Int) (lo : Bool) : Bool := f == 0 && !lo
set_option maxHeartbeats 8000000 in
set_option maxRecDepth 100000 in
theorem goes_calls (w0 w : World) (g gr : Nat) (l : List Int) (f : Int) (lo od : Bool) (hR : PRd w0 w g gr l f lo od) : Calls Tryd.prog 45 #[.pointer (some ⟨gr, 0, none⟩)] w fun e w' => e = .returned (.bool (goesR f lo)) ∧ w' = w := by
 have c1 := zD hR.st 0
 have c2 := zD hR.st 1
 simp only [List.getElem?_toArray, List.getElem?_cons_zero, List.getElem?_cons_succ] at c1 c2
 have HF := Lib.hid (fail_calls w0 w g l f hR.rdr)
 clear hR
 by_cases hf : f = 0
 ·
  subst hf
  go_enter Tryd.func45, Tryd.ntmps45
  go_wp2_with fail
  refine HF.out.mono ?_
  rintro e w1 ⟨rfl, rfl⟩
  go_wp2_with fail
  go_ret
  exact ⟨by unfold goesR; cases lo <;> rfl, rfl⟩
 ·
  have hb : (f == 0) = false := by simp [hf]
  have HFN := Lib.hid hb
  go_enter Tryd.func45, Tryd.ntmps45
  go_wp2_with fail
  refine HF.out.mono ?_
  rintro e w1 ⟨rfl, rfl⟩
  go_wp2_with fail
  go_ret
  exact ⟨by unfold goesR; rw [HFN.out]; rfl, rfl⟩
theorem numR_nonneg (l : List Int) (f : Int) : 0 ≤ (numR l f).1 := by
 unfold numR
 split
 · split <;> exact takeF_nonneg l
 · exact Int.le_refl 0
set_option maxHeartbeats 8000000 in
set_option maxRecDepth 100000 in
theorem many_calls (w0 w : World) (g gr : Nat) (m : Nat) (hm : m ≤ 1000000) (l : List Int) (f : Int) (lo od : Bool) (hR : PRd w0 w g gr l f lo od) :
  Calls Tryd.prog 44 #[.pointer (some ⟨gr, 0, none⟩), .int .u64 (m : Int)] w fun e w' => e = .returned (.int .i64 (if (m : Int) < (numR l f).1 then 0 else (numR l f).1)) ∧ PRd w0 w' g gr (numR l f).2.1 (numR l f).2.2 (if (m : Int) < (numR l f).1 then true else lo) od ∧ Kept w w' (fun b => b = g ∨ b = gr) := by
 have c1 := zD hR.st 0
 simp only [List.getElem?_toArray, List.getElem?_cons_zero, List.getElem?_cons_succ] at c1
 have HN := Lib.hid (num_calls w0 w g l f hR.rdr)
 have hn0 := numR_nonneg l f
 obtain ⟨t, ht⟩ : ∃ t, t = numR l f := ⟨_, rfl⟩
 rw [← ht] at HN hn0 ⊢
 obtain ⟨n, l', f'⟩ := t
 simp only at HN hn0 ⊢
 have HR := Lib.hid hR
 clear hR ht
 by_cases hmn : (m : Int) < n
 ·
  rw [if_pos hmn, if_pos hmn]
  go_enter Tryd.func44, Tryd.ntmps44
  go_wp2_with fail
  refine HN.out.mono ?_
  rintro e w1 ⟨rfl, hR1, hk1⟩
  have k1 := blk_kept HR.out.st hk1 (fun h => HR.out.ne h.symm)
  have d1 := zD k1 1
  have f1 := zH k1 1
  simp only [List.getElem?_toArray, List.getElem?_cons_zero, List.getElem?_cons_succ] at d1
  have K1 := Lib.hid k1
  have HR1 := Lib.hid hR1
  have HK1 := Lib.hid hk1
  clear hR1 hk1 k1
  go_wp2_with fail
  go_ret
  exact ⟨rfl, ⟨HR1.out.far HR.out.ne HR.out.ge _, blk_set K1.out 1 _, HR.out.ne, HR.out.ge⟩, (HK1.out.mono (fun k hk => .inl hk)).setCell (.inl (.inr rfl)) _⟩
 ·
  rw [if_neg hmn, if_neg hmn]
  have hmn' : n ≤ (m : Int) := by omega
  go_enter Tryd.func44, Tryd.ntmps44
  go_wp2_with fail
  refine HN.out.mono ?_
  rintro e w1 ⟨rfl, hR1, hk1⟩
  have HR1 := Lib.hid hR1
  have HK1 := Lib.hid hk1
  clear hR1 hk1
  go_wp2_with fail
  go_ret
  exact ⟨rfl, ⟨HR1.out, blk_kept HR.out.st HK1.out (fun h => HR.out.ne h.symm), HR.out.ne, HR.out.ge⟩, HK1.out.mono (fun k hk => .inl hk)⟩
end Go.Proofs.YtembjjombhfglaaDoor.G
