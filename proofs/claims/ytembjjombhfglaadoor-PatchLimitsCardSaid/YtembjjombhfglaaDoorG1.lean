import Derived.Test.YtembjjombhfglaaDoorG0
namespace Go.Proofs.YtembjjombhfglaaDoor.G
open Go.RowKit Go.Proofs.YtembjjombhfglaaDoorW.PrintWords Go.Proofs.YtembjjombhfglaaDoorW.PrintLast Go.Proofs.YtembjjombhfglaaDoorW.PrintMore
attribute [local go_sem] max2_int min2_int max_two min_two max_three min_three max_four min_four
set_option linter.unusedVariables false
set_option linter.unusedSimpArgs false
theorem eqA48 (d : Nat) (w : World) (x0 y0 : ByteArray) (x1 y1 : Bool) (x2 y2 : ByteArray) :
  (Op.equalIn (d + 2) 48 (.agg #[.string x0, .bool x1, .string x2]) (.agg #[.string y0, .bool y1, .string y2])).run Tryd.prog w = .ok (x0.toList == y0.toList && (x1 == y1 && (x2.toList == y2.toList))) w := by
 refine eqA_of Tryd.underlying48 (by kernel_rfl) ?_
 refine eqf_cons (by rfl) (by go_simp; rfl) (by go_simp; rfl) (by go_simp) ?_
 refine eqf_cons (by rfl) (by go_simp; rfl) (by go_simp; rfl) (by go_simp) ?_
 exact eqf_last (by rfl) (by go_simp; rfl) (by go_simp; rfl) (by go_simp)
end Go.Proofs.YtembjjombhfglaaDoor.G
