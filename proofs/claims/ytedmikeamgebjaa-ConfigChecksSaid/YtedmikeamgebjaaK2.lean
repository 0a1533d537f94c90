/- More short words. -/
import Derived.Test.YtedmikeamgebjaaK
namespace Go.Proofs.YtedmikeamgebjaaW.PrintK
open Go.RowKit Go.Proofs.YtedmikeamgebjaaW.PrintWords Go.Proofs.YtedmikeamgebjaaW.PrintLast Go.Proofs.YtedmikeamgebjaaW.PrintMore
theorem sKs {w0 w1 : World} {g : Nat} {o o1 : Obj} (h : Aside0 (w0.heap[g]? = some o)) (st : w0.heap[g]? = some o → w1.heap[g]? = some o1 := by (intro h_; (repeat (with_reducible first | refine blk_drewN ?_ _ | refine blk_drew ?_ | refine blk_alloc ?_ _ | apply blk_put | refine blk_far ?_ (Aside0.out (by assumption)) _ | refine blk_far ?_ (Nat.ne_of_lt (Aside0.out (by assumption))) _ | refine blk_far ?_ (Nat.ne_of_gt (Aside0.out (by assumption))) _)); exact h_; all_goals rfl)) : w1.heap[g]? = some o1 := st h.out
theorem sH {w0 w1 : World} {a : Addr} {r : Option Value} (h : w0.cell? a = r) (st : w0.cell? a = r → w1.cell? a = r := by (intro h_; (repeat refine (cell_far (Aside0.out (by assumption)) _).trans ?_); exact h_)) : w1.cell? a = r := st h
end Go.Proofs.YtedmikeamgebjaaW.PrintK
