/- The reference's numbers of a kind, and places. -/
import Derived.Test.YtedmikeamgebjaaVRefA
set_option linter.unusedVariables false
set_option linter.unusedSimpArgs false
namespace Go.Proofs.Ytedmikeamgebjaa
open Go.RowKit

def manyP (k : Int) : Int := if k = 1 then 2 else 256 ^ (sizeP k).toNat
def leastP (k : Int) : Int := if k = 2 then -128 else if k = 3 then -32768 else if k = 4 then -2147483648 else 0
theorem is_range (k v : Int) : isP k v = decide (0 < sizeP k ∧ leastP k ≤ v ∧ v ≤ leastP k + manyP k - 1) := by
  by_cases hk : k < 1 ∨ 7 < k
  · have e1 : sizeP k = 0 := by unfold sizeP; repeat' split
                                all_goals omega
    have e2 : isKindP k = false := by simp [isKindP]; omega
    simp [isP, e1, e2]
  · have hk : k = 1 ∨ k = 2 ∨ k = 3 ∨ k = 4 ∨ k = 5 ∨ k = 6 ∨ k = 7 := by omega
    rcases hk with rfl | rfl | rfl | rfl | rfl | rfl | rfl
    · apply Bool.eq_iff_iff.2
      simp [isP, isKindP, wrapP, sizeP, leastP, manyP]
      split <;> omega
    all_goals
      apply Bool.eq_iff_iff.2
      simp [isP, isKindP, wrapP, sizeP, leastP, manyP, IntKind.wrap, IntKind.signed, IntKind.bits]
      try (split <;> omega)
      try omega

set_option maxRecDepth 100000 in
set_option maxHeartbeats 800000 in
theorem r_many (k : Int) (w : World) : Calls Try.prog 90 #[.int .i64 k] w fun e w' => e = .returned (.int .i64 (manyP k)) ∧ Mod [] w w' := by
  by_cases h1 : k = 1
  · subst h1
    go_enter Try.func90, Try.ntmps90
    go_wp2_with (fail)
    go_ret
    exact ⟨rfl, Mod.refl _ _⟩
  · have h1' : (k == 1) = false := by rw [beq_eq_false_iff_ne]; exact h1
    have e0 : manyP k = 256 ^ (sizeP k).toNat := by simp [manyP, h1]
    rw [e0]
    have hsr := sizeP_range k
    have hs : ∃ s : Nat, s ≤ 4 ∧ sizeP k = (s : Int) := ⟨(sizeP k).toNat, by omega, by omega⟩
    obtain ⟨s, hs4, hs⟩ := hs
    have hz := fun w => r_size k w
    rw [hs] at hz ⊢
    have HZ := Lib.hid hz
    clear hz hs hsr e0 h1
    simp only [Int.toNat_natCast]
    go_enter Try.func90, Try.ntmps90
    go_wp2_with (fail)
    go_loopw [3, 4] (fun v3 v4 wr => ∃ j : Nat, j ≤ s ∧ v4 = .int .i64 (j : Int) ∧ v3 = .int .i64 (256 ^ j) ∧ Mod [] w wr) (fun _ v4 _ => s - (intOf v4).toNat)
    case atStart => exact ⟨0, Nat.zero_le _, rfl, rfl, Mod.refl _ _⟩
    case round hrel =>
      obtain ⟨j, hj, rfl, rfl, hM⟩ := hrel
      by_cases hlt : j < s
      · have hj4 : j = 0 ∨ j = 1 ∨ j = 2 ∨ j = 3 := by omega
        rcases hj4 with rfl | rfl | rfl | rfl
        all_goals
          have hlt' : ((0 : Int) < (s : Int)) ∧ (s : Int) ≤ 4 := by omega
          go_wp2_with (go_at_call 69; refine (HZ.out _).mono ?_; rintro e w1 ⟨rfl, hm⟩)
          go_wp2_with (fail)
          try refine ⟨⟨_, hlt, rfl, rfl, hM.trans hm⟩, by simp [intOf]; omega⟩
      · have hjs : j = s := by omega
        subst hjs
        go_wp2_with (go_at_call 69; refine (HZ.out _).mono ?_; rintro e w1 ⟨rfl, hm⟩)
        go_wp2_with (fail)
        go_ret
        exact ⟨rfl, hM.trans hm⟩

set_option maxRecDepth 100000 in
set_option maxHeartbeats 800000 in
theorem r_least (k : Int) (w : World) : Calls Try.prog 89 #[.int .i64 k] w fun e w' => e = .returned (.int .i64 (leastP k)) ∧ Mod [] w w' := by
  by_cases h0 : k < 2 ∨ 4 < k
  · have e0 : leastP k = 0 := by unfold leastP; repeat' split
                                 all_goals omega
    rw [e0]; clear e0
    rcases h0 with h0 | h0
    all_goals
      go_enter Try.func89, Try.ntmps89
      go_wp2_with (fail)
      go_ret
      exact ⟨rfl, Mod.refl _ _⟩
  · have hk : k = 2 ∨ k = 3 ∨ k = 4 := by omega
    clear h0
    rcases hk with rfl | rfl | rfl
    · have HZ := Lib.hid (fun w => r_many 2 w)
      go_enter Try.func89, Try.ntmps89
      go_wp2_with (go_at_call 90; refine (HZ.out _).mono ?_; rintro e w1 ⟨rfl, hm⟩; rw [show manyP 2 = 256 from rfl])
      go_ret
      refine ⟨rfl, ?_⟩
      repeat (with_reducible first | exact Mod.refl _ _ | refine Mod.drew ?_ | refine Mod.drewN ?_ _ | refine Mod.setCell ?_ _ (by first | (simp; done) | (simp; omega)) | refine Mod.alloc ?_ _ | refine Mod.trans ?_ (by assumption))
    · have HZ := Lib.hid (fun w => r_many 3 w)
      go_enter Try.func89, Try.ntmps89
      go_wp2_with (go_at_call 90; refine (HZ.out _).mono ?_; rintro e w1 ⟨rfl, hm⟩; rw [show manyP 3 = 65536 from rfl])
      go_ret
      refine ⟨rfl, ?_⟩
      repeat (with_reducible first | exact Mod.refl _ _ | refine Mod.drew ?_ | refine Mod.drewN ?_ _ | refine Mod.setCell ?_ _ (by first | (simp; done) | (simp; omega)) | refine Mod.alloc ?_ _ | refine Mod.trans ?_ (by assumption))
    · have HZ := Lib.hid (fun w => r_many 4 w)
      go_enter Try.func89, Try.ntmps89
      go_wp2_with (go_at_call 90; refine (HZ.out _).mono ?_; rintro e w1 ⟨rfl, hm⟩; rw [show manyP 4 = 4294967296 from rfl])
      go_ret
      refine ⟨rfl, ?_⟩
      repeat (with_reducible first | exact Mod.refl _ _ | refine Mod.drew ?_ | refine Mod.drewN ?_ _ | refine Mod.setCell ?_ _ (by first | (simp; done) | (simp; omega)) | refine Mod.alloc ?_ _ | refine Mod.trans ?_ (by assumption))

set_option maxRecDepth 100000 in
set_option maxHeartbeats 800000 in
theorem r_is (k v : Int) (w : World) (hv : In64 v) : Calls Try.prog 66 #[.int .i64 k, .int .i64 v] w fun e w' => e = .returned (.bool (isP k v)) ∧ Mod [] w w' := by
  rw [is_range]
  by_cases h0 : k < 1 ∨ 7 < k
  · have e1 : sizeP k = 0 := by unfold sizeP; repeat' split
                                all_goals omega
    have hz := fun w => r_size k w
    rw [e1] at hz ⊢
    have HZ := Lib.hid hz
    have e0 : decide ((0 : Int) < 0 ∧ leastP k ≤ v ∧ v ≤ leastP k + manyP k - 1) = false := by simp
    rw [e0]
    clear hz h0 e1 e0
    go_enter Try.func66, Try.ntmps66
    go_wp2_with (go_at_call 69; refine (HZ.out _).mono ?_; rintro e w1 ⟨rfl, hm⟩)
    go_ret
    refine ⟨rfl, ?_⟩
    repeat (with_reducible first | exact Mod.refl _ _ | refine Mod.drew ?_ | refine Mod.drewN ?_ _ | refine Mod.setCell ?_ _ (by first | (simp; done) | (simp; omega)) | refine Mod.alloc ?_ _ | refine Mod.trans ?_ (by assumption))
  · have hk : k = 1 ∨ k = 2 ∨ k = 3 ∨ k = 4 ∨ k = 5 ∨ k = 6 ∨ k = 7 := by omega
    clear h0
    unfold In64 at hv
    rcases hk with rfl | rfl | rfl | rfl | rfl | rfl | rfl
    · rw [show sizeP 1 = 1 from rfl, show leastP 1 = 0 from rfl, show manyP 1 = 2 from rfl]
      by_cases hx : (0 : Int) ≤ v <;> by_cases hy : v ≤ (1 : Int)
      all_goals try omega
      all_goals
        go_enter Try.func66, Try.ntmps66
        go_wp2_with (first | (go_at_call 69; refine (r_size _ _).mono ?_; rintro e w1 ⟨rfl, hm⟩; rw [show sizeP 1 = 1 from rfl]) | (go_at_call 89; refine (r_least _ _).mono ?_; rintro e w2 ⟨rfl, hm2⟩; rw [show leastP 1 = 0 from rfl]) | (go_at_call 90; refine (r_many _ _).mono ?_; rintro e w3 ⟨rfl, hm3⟩; rw [show manyP 1 = 2 from rfl]))
        go_ret
        refine ⟨by (show Ending.returned (.bool _) = _; congr 2; simp; try omega), ?_⟩
        repeat (with_reducible first | exact Mod.refl _ _ | refine Mod.drew ?_ | refine Mod.drewN ?_ _ | refine Mod.setCell ?_ _ (by first | (simp; done) | (simp; omega)) | refine Mod.alloc ?_ _ | refine Mod.trans ?_ (by assumption))
    · rw [show sizeP 2 = 1 from rfl, show leastP 2 = -128 from rfl, show manyP 2 = 256 from rfl]
      by_cases hx : (-128 : Int) ≤ v <;> by_cases hy : v ≤ (127 : Int)
      all_goals try omega
      all_goals
        go_enter Try.func66, Try.ntmps66
        go_wp2_with (first | (go_at_call 69; refine (r_size _ _).mono ?_; rintro e w1 ⟨rfl, hm⟩; rw [show sizeP 2 = 1 from rfl]) | (go_at_call 89; refine (r_least _ _).mono ?_; rintro e w2 ⟨rfl, hm2⟩; rw [show leastP 2 = -128 from rfl]) | (go_at_call 90; refine (r_many _ _).mono ?_; rintro e w3 ⟨rfl, hm3⟩; rw [show manyP 2 = 256 from rfl]))
        go_ret
        refine ⟨by (show Ending.returned (.bool _) = _; congr 2; simp; try omega), ?_⟩
        repeat (with_reducible first | exact Mod.refl _ _ | refine Mod.drew ?_ | refine Mod.drewN ?_ _ | refine Mod.setCell ?_ _ (by first | (simp; done) | (simp; omega)) | refine Mod.alloc ?_ _ | refine Mod.trans ?_ (by assumption))
    · rw [show sizeP 3 = 2 from rfl, show leastP 3 = -32768 from rfl, show manyP 3 = 65536 from rfl]
      by_cases hx : (-32768 : Int) ≤ v <;> by_cases hy : v ≤ (32767 : Int)
      all_goals try omega
      all_goals
        go_enter Try.func66, Try.ntmps66
        go_wp2_with (first | (go_at_call 69; refine (r_size _ _).mono ?_; rintro e w1 ⟨rfl, hm⟩; rw [show sizeP 3 = 2 from rfl]) | (go_at_call 89; refine (r_least _ _).mono ?_; rintro e w2 ⟨rfl, hm2⟩; rw [show leastP 3 = -32768 from rfl]) | (go_at_call 90; refine (r_many _ _).mono ?_; rintro e w3 ⟨rfl, hm3⟩; rw [show manyP 3 = 65536 from rfl]))
        go_ret
        refine ⟨by (show Ending.returned (.bool _) = _; congr 2; simp; try omega), ?_⟩
        repeat (with_reducible first | exact Mod.refl _ _ | refine Mod.drew ?_ | refine Mod.drewN ?_ _ | refine Mod.setCell ?_ _ (by first | (simp; done) | (simp; omega)) | refine Mod.alloc ?_ _ | refine Mod.trans ?_ (by assumption))
    · rw [show sizeP 4 = 4 from rfl, show leastP 4 = -2147483648 from rfl, show manyP 4 = 4294967296 from rfl]
      by_cases hx : (-2147483648 : Int) ≤ v <;> by_cases hy : v ≤ (2147483647 : Int)
      all_goals try omega
      all_goals
        go_enter Try.func66, Try.ntmps66
        go_wp2_with (first | (go_at_call 69; refine (r_size _ _).mono ?_; rintro e w1 ⟨rfl, hm⟩; rw [show sizeP 4 = 4 from rfl]) | (go_at_call 89; refine (r_least _ _).mono ?_; rintro e w2 ⟨rfl, hm2⟩; rw [show leastP 4 = -2147483648 from rfl]) | (go_at_call 90; refine (r_many _ _).mono ?_; rintro e w3 ⟨rfl, hm3⟩; rw [show manyP 4 = 4294967296 from rfl]))
        go_ret
        refine ⟨by (show Ending.returned (.bool _) = _; congr 2; simp; try omega), ?_⟩
        repeat (with_reducible first | exact Mod.refl _ _ | refine Mod.drew ?_ | refine Mod.drewN ?_ _ | refine Mod.setCell ?_ _ (by first | (simp; done) | (simp; omega)) | refine Mod.alloc ?_ _ | refine Mod.trans ?_ (by assumption))
    · rw [show sizeP 5 = 2 from rfl, show leastP 5 = 0 from rfl, show manyP 5 = 65536 from rfl]
      by_cases hx : (0 : Int) ≤ v <;> by_cases hy : v ≤ (65535 : Int)
      all_goals try omega
      all_goals
        go_enter Try.func66, Try.ntmps66
        go_wp2_with (first | (go_at_call 69; refine (r_size _ _).mono ?_; rintro e w1 ⟨rfl, hm⟩; rw [show sizeP 5 = 2 from rfl]) | (go_at_call 89; refine (r_least _ _).mono ?_; rintro e w2 ⟨rfl, hm2⟩; rw [show leastP 5 = 0 from rfl]) | (go_at_call 90; refine (r_many _ _).mono ?_; rintro e w3 ⟨rfl, hm3⟩; rw [show manyP 5 = 65536 from rfl]))
        go_ret
        refine ⟨by (show Ending.returned (.bool _) = _; congr 2; simp; try omega), ?_⟩
        repeat (with_reducible first | exact Mod.refl _ _ | refine Mod.drew ?_ | refine Mod.drewN ?_ _ | refine Mod.setCell ?_ _ (by first | (simp; done) | (simp; omega)) | refine Mod.alloc ?_ _ | refine Mod.trans ?_ (by assumption))
    · rw [show sizeP 6 = 2 from rfl, show leastP 6 = 0 from rfl, show manyP 6 = 65536 from rfl]
      by_cases hx : (0 : Int) ≤ v <;> by_cases hy : v ≤ (65535 : Int)
      all_goals try omega
      all_goals
        go_enter Try.func66, Try.ntmps66
        go_wp2_with (first | (go_at_call 69; refine (r_size _ _).mono ?_; rintro e w1 ⟨rfl, hm⟩; rw [show sizeP 6 = 2 from rfl]) | (go_at_call 89; refine (r_least _ _).mono ?_; rintro e w2 ⟨rfl, hm2⟩; rw [show leastP 6 = 0 from rfl]) | (go_at_call 90; refine (r_many _ _).mono ?_; rintro e w3 ⟨rfl, hm3⟩; rw [show manyP 6 = 65536 from rfl]))
        go_ret
        refine ⟨by (show Ending.returned (.bool _) = _; congr 2; simp; try omega), ?_⟩
        repeat (with_reducible first | exact Mod.refl _ _ | refine Mod.drew ?_ | refine Mod.drewN ?_ _ | refine Mod.setCell ?_ _ (by first | (simp; done) | (simp; omega)) | refine Mod.alloc ?_ _ | refine Mod.trans ?_ (by assumption))
    · rw [show sizeP 7 = 4 from rfl, show leastP 7 = 0 from rfl, show manyP 7 = 4294967296 from rfl]
      by_cases hx : (0 : Int) ≤ v <;> by_cases hy : v ≤ (4294967295 : Int)
      all_goals try omega
      all_goals
        go_enter Try.func66, Try.ntmps66
        go_wp2_with (first | (go_at_call 69; refine (r_size _ _).mono ?_; rintro e w1 ⟨rfl, hm⟩; rw [show sizeP 7 = 4 from rfl]) | (go_at_call 89; refine (r_least _ _).mono ?_; rintro e w2 ⟨rfl, hm2⟩; rw [show leastP 7 = 0 from rfl]) | (go_at_call 90; refine (r_many _ _).mono ?_; rintro e w3 ⟨rfl, hm3⟩; rw [show manyP 7 = 4294967296 from rfl]))
        go_ret
        refine ⟨by (show Ending.returned (.bool _) = _; congr 2; simp; try omega), ?_⟩
        repeat (with_reducible first | exact Mod.refl _ _ | refine Mod.drew ?_ | refine Mod.drewN ?_ _ | refine Mod.setCell ?_ _ (by first | (simp; done) | (simp; omega)) | refine Mod.alloc ?_ _ | refine Mod.trans ?_ (by assumption))

set_option maxRecDepth 100000 in
set_option maxHeartbeats 800000 in
theorem r_there (size at_ k : Int) (w : World) (hs : 0 ≤ size) (hs2 : size ≤ 100000) : Calls Try.prog 68 #[.int .i64 size, .int .i64 at_, .int .i64 k] w fun e w' => e = .returned (.bool (decide (0 < sizeP k ∧ 0 ≤ at_ ∧ at_ ≤ size - sizeP k))) ∧ Mod [] w w' := by
  have hsr := sizeP_range k
  have hz := fun w => r_size k w
  have HZ := Lib.hid hz
  clear hz
  generalize sizeP k = s at *
  by_cases h1 : 0 < s
  · by_cases h2 : 0 ≤ at_
    · by_cases h3 : at_ ≤ size
      · have hw : IntKind.i64.wrap (size - at_) = size - at_ := IntWalk.i64_in _ (by omega)
        go_enter Try.func68, Try.ntmps68
        go_wp2_with (go_at_call 69; refine (HZ.out _).mono ?_; rintro e w1 ⟨rfl, hm⟩)
        go_ret
        refine ⟨by (show Ending.returned (.bool _) = _; congr 2; exact Bool.eq_iff_iff.2 (by simp; omega)), ?_⟩
        repeat (with_reducible first | exact Mod.refl _ _ | refine Mod.drew ?_ | refine Mod.drewN ?_ _ | refine Mod.setCell ?_ _ (by first | (simp; done) | (simp; omega)) | refine Mod.alloc ?_ _ | refine Mod.trans ?_ (by assumption))
      · go_enter Try.func68, Try.ntmps68
        go_wp2_with (go_at_call 69; refine (HZ.out _).mono ?_; rintro e w1 ⟨rfl, hm⟩)
        go_ret
        refine ⟨by (show Ending.returned (.bool _) = _; congr 2; exact Bool.eq_iff_iff.2 (by simp; omega)), ?_⟩
        repeat (with_reducible first | exact Mod.refl _ _ | refine Mod.drew ?_ | refine Mod.drewN ?_ _ | refine Mod.setCell ?_ _ (by first | (simp; done) | (simp; omega)) | refine Mod.alloc ?_ _ | refine Mod.trans ?_ (by assumption))
    · go_enter Try.func68, Try.ntmps68
      go_wp2_with (go_at_call 69; refine (HZ.out _).mono ?_; rintro e w1 ⟨rfl, hm⟩)
      go_ret
      refine ⟨by (show Ending.returned (.bool _) = _; congr 2; exact Bool.eq_iff_iff.2 (by simp; omega)), ?_⟩
      repeat (with_reducible first | exact Mod.refl _ _ | refine Mod.drew ?_ | refine Mod.drewN ?_ _ | refine Mod.setCell ?_ _ (by first | (simp; done) | (simp; omega)) | refine Mod.alloc ?_ _ | refine Mod.trans ?_ (by assumption))
  · go_enter Try.func68, Try.ntmps68
    go_wp2_with (go_at_call 69; refine (HZ.out _).mono ?_; rintro e w1 ⟨rfl, hm⟩)
    go_ret
    refine ⟨by (show Ending.returned (.bool _) = _; congr 2; exact Bool.eq_iff_iff.2 (by simp; omega)), ?_⟩
    repeat (with_reducible first | exact Mod.refl _ _ | refine Mod.drew ?_ | refine Mod.drewN ?_ _ | refine Mod.setCell ?_ _ (by first | (simp; done) | (simp; omega)) | refine Mod.alloc ?_ _ | refine Mod.trans ?_ (by assumption))

theorem r_logic (k : Int) (w : World) : Calls Try.prog 70 #[.int .i64 k] w fun e w' => e = .returned (.bool (logicP k)) ∧ Mod [] w w' := by
  have HM := Lib.hid (fun w => r_may 13 k w)
  go_enter Try.func70, Try.ntmps70
  go_wp2_with (go_at_call 71; refine (HM.out _).mono ?_; rintro e w1 ⟨rfl, hm⟩)
  go_ret
  refine ⟨rfl, ?_⟩
  repeat (with_reducible first | exact Mod.refl _ _ | refine Mod.drew ?_ | refine Mod.drewN ?_ _ | refine Mod.setCell ?_ _ (by first | (simp; done) | (simp; omega)) | refine Mod.alloc ?_ _ | refine Mod.trans ?_ (by assumption))
end Go.Proofs.Ytedmikeamgebjaa
