import Derived.Test.YtembjjombhfglaaDoorGD0
import Derived.Test.YtembjjombhfglaaDoorGX
import Derived.Outline
namespace Go.Proofs.YtembjjombhfglaaDoor.G
open Go.RowKit Go.Proofs.YtembjjombhfglaaDoorW.PrintWords Go.Proofs.YtembjjombhfglaaDoorW.PrintLast Go.Proofs.YtembjjombhfglaaDoorW.PrintMore
set_option linter.unusedVariables false
set_option linter.unusedSimpArgs false
def turnP (x n : Int) : Int := Go.bits .or .u32 (shl .u32 x (32 - n)) (shr .u32 x n)
theorem turn_calls (x n : Int) (h1 : 1 ≤ n) (h2 : n ≤ 31) (w : World) : Calls Tryd.prog 84 #[.int .u32 x, .int .i64 n] w fun e w' => e = .returned (.int .u32 (turnP x n)) ∧ w' = w := by
 refine GT.digest_turn.calls x n _ w ?_
 unfold GT.digest_turn.f GT.bits_RotateLeft32.f turnP
 obtain ⟨m, rfl⟩ := Int.eq_ofNat_of_zero_le (show 0 ≤ n by omega)
 have hw : ∀ n ∈ List.range 32, 1 ≤ n → Go.bits .and .u64 (IntKind.u64.wrap (wrap64 (-(n : Int)))) 31 = 32 - (n : Int) ∧ IntKind.u64.wrap (32 - (32 - (n : Int))) = (n : Int) := by decide +kernel
 obtain ⟨e1, e2⟩ := hw m (by simp; omega) (by omega)
 rw [e1, e2, if_pos (by omega), if_pos (by omega)]
 rfl
set_option maxHeartbeats 4000000 in
set_option maxRecDepth 100000 in
theorem first_calls (w : World) : Calls Tryd.prog 63 #[] w fun e w' => e = .returned (.agg #[.int .u32 1779033703, .int .u32 3144134277, .int .u32 1013904242, .int .u32 2773480762, .int .u32 1359893119, .int .u32 2600822924, .int .u32 528734635, .int .u32 1541459225]) ∧ Below w.heap.size w w' := by
 go_enter Tryd.func63, Tryd.ntmps63
 go_wp2
 exact bodyPost_ret (v := .agg #[.int .u32 1779033703, .int .u32 3144134277, .int .u32 1013904242, .int .u32 2773480762, .int .u32 1359893119, .int .u32 2600822924, .int .u32 528734635, .int .u32 1541459225]) (by simp [results, Tryd.results63, go_sem]) rfl ⟨rfl, ((Below.refl _ _).alloc (Nat.le_refl _) _)⟩
def stepT (e f g h k x : Int) : Int := (h + Go.bits .xor .u32 (Go.bits .xor .u32 (turnP e 6) (turnP e 11)) (turnP e 25) + Go.bits .xor .u32 (Go.bits .and .u32 e f) (Go.bits .and .u32 (Go.bits .xor .u32 IntKind.u32.max e) g) + k + x) % 4294967296
def stepU (a b c : Int) : Int := (Go.bits .xor .u32 (Go.bits .xor .u32 (turnP a 2) (turnP a 13)) (turnP a 22) + Go.bits .xor .u32 (Go.bits .xor .u32 (Go.bits .and .u32 a b) (Go.bits .and .u32 a c)) (Go.bits .and .u32 b c)) % 4294967296
set_option maxHeartbeats 4000000 in
set_option maxRecDepth 100000 in
theorem step_calls (a b c d e f g s k x : Int) (w : World) : Calls Tryd.prog 77 #[.agg #[.int .u32 a, .int .u32 b, .int .u32 c, .int .u32 d, .int .u32 e, .int .u32 f, .int .u32 g, .int .u32 s], .int .u32 k, .int .u32 x] w fun e' w' => e' = .returned (.agg #[.int .u32 ((stepT e f g s k x + stepU a b c) % 4294967296), .int .u32 a, .int .u32 b, .int .u32 c, .int .u32 ((d + stepT e f g s k x) % 4294967296), .int .u32 e, .int .u32 f, .int .u32 g]) ∧ Below w.heap.size w w' := by
 go_enter Tryd.func77, Tryd.ntmps77
 go_wp2_with fail
 go_quiet (fail)
 go_wp2_with fail
 go_quiet (first | (go_at_call 84; (with_reducible refine (turn_calls e 6 (by omega) (by omega) _).mono ?_); rintro e w' ⟨rfl, rfl⟩; exact ⟨rfl, _, rfl⟩) | (go_at_call 84; (with_reducible refine (turn_calls e 11 (by omega) (by omega) _).mono ?_); rintro e w' ⟨rfl, rfl⟩; exact ⟨rfl, _, rfl⟩) | (go_at_call 84; (with_reducible refine (turn_calls e 25 (by omega) (by omega) _).mono ?_); rintro e w' ⟨rfl, rfl⟩; exact ⟨rfl, _, rfl⟩))
 go_wp2_with fail
 refine (turn_calls a 2 (by omega) (by omega) _).mono ?_
 rintro _ w' ⟨rfl, rfl⟩
 go_wp2_with fail
 refine (turn_calls a 13 (by omega) (by omega) _).mono ?_
 rintro _ w' ⟨rfl, rfl⟩
 go_wp2_with fail
 refine (turn_calls a 22 (by omega) (by omega) _).mono ?_
 rintro _ w' ⟨rfl, rfl⟩
 go_wp2_with fail
 exact bodyPost_ret (v := .agg #[.int .u32 ((stepT e f g s k x + stepU a b c) % 4294967296), .int .u32 a, .int .u32 b, .int .u32 c, .int .u32 ((d + stepT e f g s k x) % 4294967296), .int .u32 e, .int .u32 f, .int .u32 g]) (by simp [results, Tryd.results77, go_sem, stepT, stepU]) rfl ⟨rfl, by repeat (first | (with_reducible first | exact Below.refl _ _ | apply zC | apply zA | apply zB | refine zE ?_ (Nat.le_refl _) | refine zE ?_ (Nat.le_succ _)) | exact Below.refl _ _)⟩
end Go.Proofs.YtembjjombhfglaaDoor.G
