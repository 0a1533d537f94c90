/- slices.IndexFunc and slices.ContainsFunc at the rows of structs, whatever the closure. -/
import Derived.Test.YtedmikeamgebjaaVCheck
import Derived.Test.YtedmikeamgebjaaVRefJ
import Derived.Test.YtedmikeamgebjaaProg
import Derived.Test.YtedmikeamgebjaaWAll
import Derived.IntWalk
import Derived.Shelf.Abstract
import Derived.Test.YtedmikeamgebjaaCIdx
import Derived.Deep.LoopGhost
import Derived.Lib.SliceRun
set_option linter.unusedVariables false
set_option linter.unusedSimpArgs false
namespace Go.Proofs.Ytedmikeamgebjaa
open Go.RowKit Go.Proofs.YtedmikeamgebjaaW.PrintWords Go.Proofs.YtedmikeamgebjaaW.PrintLast Go.Proofs.YtedmikeamgebjaaW.PrintMore

def checkF (l : List Ins) : Option (Int × Int) := if l.all Ins.okB = true then some ((allP l).1, ((allP l).2.1 : Int)) else none
theorem checkF_some {l : List Ins} (h : ∀ i ∈ l, i.Ok) : checkF l = some ((allP l).1, ((allP l).2.1 : Int)) := by
  unfold checkF
  rw [if_pos (List.all_eq_true.2 fun i hi => Ins.okB_iff.2 (h i hi))]
theorem checkF_calls {l : List Ins} {r1 r2 : Int} {w : World} {v : Value} (h : checkF l = some (r1, r2)) (hv : RSn w 5 encI v l) : Calls Try.prog 38 #[v] w fun e w' => e = .returned (.tuple #[.int .i64 r1, .int .i64 r2]) ∧ Below w.heap.size w w' := by
  unfold checkF at h
  split at h
  · rename_i hok
    simp only [Option.some.injEq, Prod.mk.injEq] at h
    obtain ⟨rfl, rfl⟩ := h
    exact (v_check v l w hv (fun i hi => Ins.okB_iff.1 (List.all_eq_true.1 hok i hi))).mono fun e w' h => ⟨h.1, h.2.toBelow⟩
  · cases h


end Go.Proofs.Ytedmikeamgebjaa
