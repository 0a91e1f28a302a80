-- Written by a program of this session (wip/gen.py) over the kit's print: each Go function as a plain Lean function, and the proof that the Go code comes to it. Nothing here is trusted: Lean checks it.
import Derived.Test.YtolmcdglemkchaaDoorPx0
namespace Go.Proofs.YtolmcdglemkchaaDoor.P
open Go.RowKit Go.Proofs.YtolmcdglemkchaaDoorW.PrintWords Go.Proofs.YtolmcdglemkchaaDoorW.PrintLast Go.Proofs.YtolmcdglemkchaaDoorW.PrintMore
attribute [local go_sem] str_gtr str_leq str_geq max2_int min2_int max_two min_two max_three min_three max_four min_four   -- for this text's walks alone
set_option linter.unusedVariables false
set_option linter.unusedSimpArgs false

theorem eqA23 (d : Nat) (w : World) (x0 y0 : Int) (x1 y1 : Bool) (x2 y2 : Bool) (x3 y3 : Bool) :
    (Op.equalIn (d + 2) 23 (.agg #[.int .i64 x0, .bool x1, .bool x2, .bool x3]) (.agg #[.int .i64 y0, .bool y1, .bool y2, .bool y3])).run Tryd.prog w = .ok (x0 == y0 && (x1 == y1 && (x2 == y2 && (x3 == y3)))) w := by
  refine eqA_of Tryd.underlying23 (by kernel_rfl) ?_
  refine eqf_cons (by rfl) (by go_simp; rfl) (by go_simp; rfl) (by go_simp) ?_
  refine eqf_cons (by rfl) (by go_simp; rfl) (by go_simp; rfl) (by go_simp) ?_
  refine eqf_cons (by rfl) (by go_simp; rfl) (by go_simp; rfl) (by go_simp) ?_
  exact eqf_last (by rfl) (by go_simp; rfl) (by go_simp; rfl) (by go_simp)
end Go.Proofs.YtolmcdglemkchaaDoor.P
