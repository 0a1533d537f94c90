/- The reference's kinds and instructions. -/
import Derived.Test.YtedmikeamgebjaaProg
import Derived.Test.YtedmikeamgebjaaVSpec
import Derived.Laws.StructEq
import Derived.KernelRfl
set_option linter.unusedVariables false
set_option linter.unusedSimpArgs false
namespace Go.Proofs.Ytedmikeamgebjaa
open Go.RowKit

def readsP (n : Int) : Bool := decide (n = 1 ∨ n = 2 ∨ (7 ≤ n ∧ n ≤ 12) ∨ (14 ≤ n ∧ n ≤ 24))
def writesP (n : Int) : Bool := decide (3 ≤ n ∧ n ≤ 6)

set_option maxRecDepth 100000 in
set_option maxHeartbeats 800000 in
theorem r_size (k : Int) (w : World) : Calls Try.prog 69 #[.int .i64 k] w fun e w' => e = .returned (.int .i64 (sizeP k)) ∧ Mod [] w w' := by
  by_cases h1 : k < 0
  · have e0 : sizeP k = 0 := by unfold sizeP; repeat' split
                                all_goals omega
    rw [e0]; clear e0
    go_enter Try.func69, Try.ntmps69
    go_wp2_with (fail)
    go_ret
    refine ⟨rfl, ?_⟩
    repeat (with_reducible first | exact Mod.refl _ _ | refine Mod.drew ?_ | refine Mod.drewN ?_ _ | refine Mod.setCell ?_ _ (by first | (simp; done) | (simp; omega)) | refine Mod.alloc ?_ _ | refine Mod.trans ?_ (by assumption))
  · by_cases h2 : 7 < k
    · have e0 : sizeP k = 0 := by unfold sizeP; repeat' split
                                  all_goals omega
      rw [e0]; clear e0
      go_enter Try.func69, Try.ntmps69
      go_wp2_with (fail)
      go_ret
      refine ⟨rfl, ?_⟩
      repeat (with_reducible first | exact Mod.refl _ _ | refine Mod.drew ?_ | refine Mod.drewN ?_ _ | refine Mod.setCell ?_ _ (by first | (simp; done) | (simp; omega)) | refine Mod.alloc ?_ _ | refine Mod.trans ?_ (by assumption))
    · have hk : k = 0 ∨ k = 1 ∨ k = 2 ∨ k = 3 ∨ k = 4 ∨ k = 5 ∨ k = 6 ∨ k = 7 := by omega
      clear h1 h2
      rcases hk with rfl | rfl | rfl | rfl | rfl | rfl | rfl | rfl
      all_goals
        go_enter Try.func69, Try.ntmps69
        go_wp2_with (fail)
        go_ret
        refine ⟨rfl, ?_⟩
        repeat (with_reducible first | exact Mod.refl _ _ | refine Mod.drew ?_ | refine Mod.drewN ?_ _ | refine Mod.setCell ?_ _ (by first | (simp; done) | (simp; omega)) | refine Mod.alloc ?_ _ | refine Mod.trans ?_ (by assumption))

set_option maxRecDepth 100000 in
set_option maxHeartbeats 800000 in
theorem r_reads (n : Int) (w : World) : Calls Try.prog 65 #[.int .i64 n] w fun e w' => e = .returned (.bool (readsP n)) ∧ w = w' := by
  by_cases h1 : n = 1
  · subst h1
    go_enter Try.func65, Try.ntmps65
    go_wp2_with (fail)
    all_goals
      go_ret
      exact ⟨rfl, rfl⟩
  · have h1' : (n == 1) = false := by rw [beq_eq_false_iff_ne]; exact h1
    by_cases h2 : n = 2
    · subst h2
      go_enter Try.func65, Try.ntmps65
      go_wp2_with (fail)
      all_goals
        go_ret
        exact ⟨rfl, rfl⟩
    · have h2' : (n == 2) = false := by rw [beq_eq_false_iff_ne]; exact h2
      by_cases h3 : 7 ≤ n <;> by_cases h4 : n ≤ 12 <;> by_cases h5 : 14 ≤ n <;> by_cases h6 : n ≤ 24
      all_goals try omega
      all_goals
        go_enter Try.func65, Try.ntmps65
        go_wp2_with (fail)
        go_ret
        refine ⟨?_, rfl⟩
        show Ending.returned (.bool _) = _
        congr 2
        simp [readsP]
        try omega

set_option maxRecDepth 100000 in
set_option maxHeartbeats 800000 in
theorem r_writes (n : Int) (w : World) : Calls Try.prog 67 #[.int .i64 n] w fun e w' => e = .returned (.bool (writesP n)) ∧ w = w' := by
  by_cases h3 : 3 ≤ n
  · by_cases h4 : n ≤ 6
    · have e0 : writesP n = true := by simp [writesP]; omega
      rw [e0]; clear e0
      go_enter Try.func67, Try.ntmps67
      go_wp2_with (fail)
      go_ret
      exact ⟨by simp [*], rfl⟩
    · have e0 : writesP n = false := by simp [writesP]; omega
      rw [e0]; clear e0
      go_enter Try.func67, Try.ntmps67
      go_wp2_with (fail)
      go_ret
      exact ⟨by simp [*], rfl⟩
  · have e0 : writesP n = false := by simp [writesP]; omega
    rw [e0]; clear e0
    go_enter Try.func67, Try.ntmps67
    go_wp2_with (fail)
    go_ret
    exact ⟨by simp [*], rfl⟩

set_option maxRecDepth 100000 in
set_option maxHeartbeats 800000 in
theorem r_may (op k : Int) (w : World) : Calls Try.prog 71 #[.int .i64 op, .int .i64 k] w fun e w' => e = .returned (.bool (mayP op k)) ∧ Mod [] w w' := by
  have hsz := fun w => r_size k w
  by_cases h0 : k < 1 ∨ 7 < k
  · have e0 : mayP op k = false := by simp [mayP, isKindP]; omega
    have e1 : sizeP k = 0 := by unfold sizeP; repeat' split
                                all_goals omega
    rw [e1] at hsz
    rw [e0]
    have HZ := Lib.hid hsz
    clear e0 e1 hsz h0
    by_cases h1 : 14 ≤ op <;> by_cases h2 : op ≤ 18 <;> by_cases h3 : 7 ≤ op <;> by_cases h4 : op ≤ 13 <;> by_cases h5 : 19 ≤ op <;> by_cases h6 : op ≤ 24
    all_goals try omega
    all_goals
      go_enter Try.func71, Try.ntmps71
      go_wp2_with (go_at_call 69; refine (HZ.out _).mono ?_; rintro e w1 ⟨rfl, hm⟩)
      go_ret
      refine ⟨rfl, ?_⟩
      repeat (with_reducible first | exact Mod.refl _ _ | refine Mod.drew ?_ | refine Mod.drewN ?_ _ | refine Mod.setCell ?_ _ (by first | (simp; done) | (simp; omega)) | refine Mod.alloc ?_ _ | refine Mod.trans ?_ (by assumption))
  · have hk : k = 1 ∨ k = 2 ∨ k = 3 ∨ k = 4 ∨ k = 5 ∨ k = 6 ∨ k = 7 := by omega
    clear h0
    rcases hk with rfl | rfl | rfl | rfl | rfl | rfl | rfl
    all_goals
      have HZ := Lib.hid hsz
      clear hsz
      by_cases h1 : 14 ≤ op <;> by_cases h2 : op ≤ 18 <;> by_cases h3 : 7 ≤ op <;> by_cases h4 : op ≤ 13 <;> by_cases h5 : 19 ≤ op <;> by_cases h6 : op ≤ 24
      all_goals try omega
      all_goals
        go_enter Try.func71, Try.ntmps71
        go_wp2_with (go_at_call 69; refine (HZ.out _).mono ?_; rintro e w1 ⟨rfl, hm⟩; simp only [show sizeP 1 = 1 from rfl, show sizeP 2 = 1 from rfl, show sizeP 3 = 2 from rfl, show sizeP 4 = 4 from rfl, show sizeP 5 = 2 from rfl, show sizeP 6 = 2 from rfl, show sizeP 7 = 4 from rfl])
        go_ret
        refine ⟨by (show Ending.returned (.bool _) = _; congr 2; simp [mayP, isKindP, bitsP]; try omega), ?_⟩
        repeat (with_reducible first | exact Mod.refl _ _ | refine Mod.drew ?_ | refine Mod.drewN ?_ _ | refine Mod.setCell ?_ _ (by first | (simp; done) | (simp; omega)) | refine Mod.alloc ?_ _ | refine Mod.trans ?_ (by assumption))

end Go.Proofs.Ytedmikeamgebjaa
