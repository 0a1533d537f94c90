/- verify: Check and Kinds. -/
import Derived.Test.YtedmikeamgebjaaVAll
set_option linter.unusedVariables false
set_option linter.unusedSimpArgs false
namespace Go.Proofs.Ytedmikeamgebjaa
open Go.RowKit

set_option maxRecDepth 100000 in
set_option maxHeartbeats 800000 in
theorem v_check (v : Value) (l : List Ins) (w : World) (h : RSn w 5 encI v l) (hok : ∀ i ∈ l, i.Ok) : Calls Try.prog 38 #[v] w fun e w' => e = .returned (.tuple #[.int .i64 (allP l).1, .int .i64 ((allP l).2.1 : Int)]) ∧ Mod [] w w' := by
  have HA := Lib.hid (v_all v l w h hok)
  clear h hok
  go_enter Try.func38, Try.ntmps38
  go_wp2_with (go_at_call 53; refine HA.out.mono ?_; rintro e w1 ⟨tv, rfl, hK, hm⟩)
  go_ret2
  exact ⟨rfl, hm⟩

theorem stepP_len (n : Nat) (t : Tab) (k : Nat) (i : Ins) : (stepP n t k i).2.length = t.length := by
  have h1 : ∀ (b : Bool) (x y : Tab) (L : Nat), x.length = L → y.length = L → (if b = true then x else y).length = L := by
    intro b x y L hx hy
    split <;> assumption
  have h2 : ∀ (Q : Prop) [Decidable Q] (x y : Int × Tab) (L : Nat), x.2.length = L → y.2.length = L → (if Q then x else y).2.length = L := by
    intro Q _ x y L hx hy
    split <;> assumption
  unfold stepP
  refine h2 _ _ _ _ rfl ?_
  split
  · refine h2 _ _ _ _ rfl (h2 _ _ _ _ rfl (h2 _ _ _ _ rfl (h2 _ _ _ _ rfl (h1 _ _ _ _ ?_ ?_))))
    · rw [leadT_length]; exact h1 _ _ _ _ (leadT_length _ _ _) rfl
    · exact h1 _ _ _ _ (leadT_length _ _ _) rfl
  · rfl
theorem goP_len {n : Nat} : ∀ (l : List Ins) (k : Nat) (t : Tab), t.length = n + 1 → (goP n l k t).1 = 0 → (goP n l k t).2.2.length = n + 1 := by
  intro l
  induction l with
  | nil =>
    intro k t ht h
    unfold goP at h ⊢
    split at h
    · split at h
      · simp at h
      · simp_all
    · simp_all
  | cons i is ih =>
    intro k t ht h
    unfold goP at h ⊢
    split at h
    · rename_i hne
      exact absurd h hne
    · rename_i hne
      rw [if_neg hne]
      exact ih _ _ (by rw [stepP_len]; exact ht) h
theorem allP_len {l : List Ins} (h : (allP l).1 = 0) : (allP l).2.2.length = l.length + 1 := by
  unfold allP at h ⊢
  split at h
  · simp at h
  · rename_i h200
    rw [if_neg h200]
    exact goP_len l 0 _ (by simp [startT]) h

end Go.Proofs.Ytedmikeamgebjaa
