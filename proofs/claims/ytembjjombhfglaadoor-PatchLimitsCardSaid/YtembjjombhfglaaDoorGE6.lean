import Derived.Test.YtembjjombhfglaaDoorGD8
namespace Go.Proofs.YtembjjombhfglaaDoor.G
open Go.RowKit Go.Proofs.YtembjjombhfglaaDoorW.PrintWords Go.Proofs.YtembjjombhfglaaDoorW.PrintLast Go.Proofs.YtembjjombhfglaaDoorW.PrintMore
set_option linter.unusedVariables false
set_option linter.unusedSimpArgs false
theorem foldN_length (n : Nat) : ∀ (S l : List Int), S.length = 8 → (foldN n S l).length = 8 := by
 induction n with
 | zero => exact fun _ _ h => h
 | succ n ih => exact fun S l h => ih _ _ (behindP_length _ _ h)
theorem restB_lt (l : List Int) : (restB l).length < 64 := by unfold restB; rw [List.length_drop]; omega
def digest_Of.f (l0 : List Int) : Option ByteArray := if l0.length ≤ 70368744177664 then some (strOfNums (sumF (foldB first8 l0) (l0.length : Int) (restB l0))) else none
set_option maxHeartbeats 4000000 in
set_option maxRecDepth 100000 in
theorem digest_Of.calls (A0 : Option Addr) (c0 : Nat) (l0 : List Int) (r : ByteArray) (w : World) (hr0 : Kd.C (Kd.int .u8) w A0 l0.length l0) (hc0 : l0.length ≤ c0) (hG : GK w) (h : digest_Of.f l0 = some r) :
  Calls Tryd.prog 28 #[.slice A0 l0.length c0] w fun e w' => e = .returned (.string r) ∧ Below w.heap.size w w' := by
 unfold digest_Of.f at h
 by_cases hn : l0.length ≤ 70368744177664
 ·
  rw [if_pos hn] at h
  obtain rfl := Option.some.inj h
  have HR := Lib.hid hr0
  have HG := Lib.hid hG
  have HC := Lib.hid hc0
  have HN := Lib.hid hn
  clear hr0 hG h hc0 hn
  go_enter Tryd.func28, Tryd.ntmps28
  go_wp2_with fail
  refine (new_calls _).mono ?_
  rintro e w1 ⟨g, hg, rfl, hH1, hB1⟩
  have hw := write_calls g first8 rfl A0 c0 l0 w1 hH1 HC.out HN.out (fun w' hb => Kd.C_below HR.out (hB1.trans (hb.mono hg))) (fun w' hb => HG.out.below (hB1.trans (hb.mono hg)))
  have hgl := blk_lt hH1
  have HW := Lib.hid hw
  have HB1 := Lib.hid hB1
  clear hw hH1 hB1
  go_wp2_with fail
  refine HW.out.mono ?_
  rintro e w2 ⟨rfl, v, hH2, hR2, hB2⟩
  have hb2 : Below w.heap.size w w2 := HB1.out.trans (hB2.mono hg)
  have hs := sum_calls g (foldB first8 l0) (foldN_length _ _ _ rfl) v (l0.length : Int) (by omega) (restB l0) (restB_lt l0) w1.heap.size w2 hH2 hR2 hgl hB2.size (HG.out.below hb2)
  have HS := Lib.hid hs
  have HB2 := Lib.hid hb2
  clear hs hb2 hH2 hR2 hB2 HW HB1
  go_wp2_with fail
  refine HS.out.mono ?_
  rintro e w3 ⟨rfl, hB3⟩
  go_wp2_with fail
  go_ret
  exact ⟨rfl, HB2.out.trans (hB3.mono HB2.out.size)⟩
 ·
  rw [if_neg hn] at h
  exact absurd h (by simp)
end Go.Proofs.YtembjjombhfglaaDoor.G
