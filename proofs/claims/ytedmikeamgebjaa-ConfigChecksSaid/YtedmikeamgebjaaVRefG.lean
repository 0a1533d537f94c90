/- The reference's behind, more instructions. -/
import Derived.Test.YtedmikeamgebjaaVRefE
set_option linter.unusedVariables false
set_option linter.unusedSimpArgs false
namespace Go.Proofs.Ytedmikeamgebjaa
open Go.RowKit

set_option maxRecDepth 100000 in
set_option maxHeartbeats 1600000 in
theorem r_beh_25a (kind area at_ ni k atx n : Int) (s : ByteArray) (w : World) (hs : s.size ≤ 16) (hj : at_ ≤ atx) : Calls Try.prog 56 #[.agg #[.int .i64 25, .int .i64 kind, .int .i64 area, .int .i64 at_, .int .i64 ni], .int .i64 atx, .int .i64 n, .agg #[.bool true, .int .i64 k, .string s]] w fun e w' => e = .returned (.tuple #[.agg #[.bool true, .int .i64 k, .string s], .int .i64 7]) ∧ Mod [] w w' := by
  go_enter Try.func56, Try.ntmps56
  go_wp2_with (fail)
  all_goals
    refine bodyPost_ret (v := .tuple #[.agg #[.bool true, .int .i64 k, .string s], .int .i64 7]) (by simp [results, Try.results56, go_sem, *]) rfl ⟨rfl, ?_⟩
    repeat (with_reducible first | exact Mod.refl _ _ | refine Mod.drew ?_ | refine Mod.drewN ?_ _ | refine Mod.setCell ?_ _ (by first | (simp; done) | (simp; omega)) | refine Mod.alloc ?_ _ | refine Mod.trans ?_ (by assumption))

set_option maxRecDepth 100000 in
set_option maxHeartbeats 1600000 in
theorem r_beh_25b (kind area at_ ni k atx n : Int) (s : ByteArray) (w : World) (hs : s.size ≤ 16) (hj : atx < at_) (hj2 : n < at_) : Calls Try.prog 56 #[.agg #[.int .i64 25, .int .i64 kind, .int .i64 area, .int .i64 at_, .int .i64 ni], .int .i64 atx, .int .i64 n, .agg #[.bool true, .int .i64 k, .string s]] w fun e w' => e = .returned (.tuple #[.agg #[.bool true, .int .i64 k, .string s], .int .i64 7]) ∧ Mod [] w w' := by
  go_enter Try.func56, Try.ntmps56
  go_wp2_with (fail)
  all_goals
    refine bodyPost_ret (v := .tuple #[.agg #[.bool true, .int .i64 k, .string s], .int .i64 7]) (by simp [results, Try.results56, go_sem, *]) rfl ⟨rfl, ?_⟩
    repeat (with_reducible first | exact Mod.refl _ _ | refine Mod.drew ?_ | refine Mod.drewN ?_ _ | refine Mod.setCell ?_ _ (by first | (simp; done) | (simp; omega)) | refine Mod.alloc ?_ _ | refine Mod.trans ?_ (by assumption))

set_option maxRecDepth 100000 in
set_option maxHeartbeats 1600000 in
theorem r_beh_25t (kind area at_ ni k atx n : Int) (s : ByteArray) (w : World) (hs : s.size ≤ 16) (hj : atx < at_) (hj2 : at_ ≤ n) : Calls Try.prog 56 #[.agg #[.int .i64 25, .int .i64 kind, .int .i64 area, .int .i64 at_, .int .i64 ni], .int .i64 atx, .int .i64 n, .agg #[.bool true, .int .i64 k, .string s]] w fun e w' => e = .returned (.tuple #[.agg #[.bool true, .int .i64 k, .string s], .int .i64 0]) ∧ Mod [] w w' := by
  go_enter Try.func56, Try.ntmps56
  go_wp2_with (fail)
  all_goals
    refine bodyPost_ret (v := .tuple #[.agg #[.bool true, .int .i64 k, .string s], .int .i64 0]) (by simp [results, Try.results56, go_sem, *]) rfl ⟨rfl, ?_⟩
    repeat (with_reducible first | exact Mod.refl _ _ | refine Mod.drew ?_ | refine Mod.drewN ?_ _ | refine Mod.setCell ?_ _ (by first | (simp; done) | (simp; omega)) | refine Mod.alloc ?_ _ | refine Mod.trans ?_ (by assumption))

set_option maxRecDepth 100000 in
set_option maxHeartbeats 1600000 in
theorem r_beh_26a (kind area at_ ni k atx n : Int) (s : ByteArray) (w : World) (hs : s.size ≤ 16) (hj : at_ ≤ atx) : Calls Try.prog 56 #[.agg #[.int .i64 26, .int .i64 kind, .int .i64 area, .int .i64 at_, .int .i64 ni], .int .i64 atx, .int .i64 n, .agg #[.bool true, .int .i64 k, .string s]] w fun e w' => e = .returned (.tuple #[.agg #[.bool true, .int .i64 k, .string s], .int .i64 7]) ∧ Mod [] w w' := by
  go_enter Try.func56, Try.ntmps56
  go_wp2_with (fail)
  all_goals
    refine bodyPost_ret (v := .tuple #[.agg #[.bool true, .int .i64 k, .string s], .int .i64 7]) (by simp [results, Try.results56, go_sem, *]) rfl ⟨rfl, ?_⟩
    repeat (with_reducible first | exact Mod.refl _ _ | refine Mod.drew ?_ | refine Mod.drewN ?_ _ | refine Mod.setCell ?_ _ (by first | (simp; done) | (simp; omega)) | refine Mod.alloc ?_ _ | refine Mod.trans ?_ (by assumption))

set_option maxRecDepth 100000 in
set_option maxHeartbeats 1600000 in
theorem r_beh_26b (kind area at_ ni k atx n : Int) (s : ByteArray) (w : World) (hs : s.size ≤ 16) (hj : atx < at_) (hj2 : n < at_) : Calls Try.prog 56 #[.agg #[.int .i64 26, .int .i64 kind, .int .i64 area, .int .i64 at_, .int .i64 ni], .int .i64 atx, .int .i64 n, .agg #[.bool true, .int .i64 k, .string s]] w fun e w' => e = .returned (.tuple #[.agg #[.bool true, .int .i64 k, .string s], .int .i64 7]) ∧ Mod [] w w' := by
  go_enter Try.func56, Try.ntmps56
  go_wp2_with (fail)
  all_goals
    refine bodyPost_ret (v := .tuple #[.agg #[.bool true, .int .i64 k, .string s], .int .i64 7]) (by simp [results, Try.results56, go_sem, *]) rfl ⟨rfl, ?_⟩
    repeat (with_reducible first | exact Mod.refl _ _ | refine Mod.drew ?_ | refine Mod.drewN ?_ _ | refine Mod.setCell ?_ _ (by first | (simp; done) | (simp; omega)) | refine Mod.alloc ?_ _ | refine Mod.trans ?_ (by assumption))

set_option maxRecDepth 100000 in
set_option maxHeartbeats 1600000 in
theorem r_beh_26t (kind area at_ ni k atx n : Int) (s : ByteArray) (w : World) (hs : s.size ≤ 16) (hj : atx < at_) (hj2 : at_ ≤ n) (hk : (k != 1) = false) : Calls Try.prog 56 #[.agg #[.int .i64 26, .int .i64 kind, .int .i64 area, .int .i64 at_, .int .i64 ni], .int .i64 atx, .int .i64 n, .agg #[.bool true, .int .i64 k, .string s]] w fun e w' => e = .returned (.tuple #[.agg #[.bool true, .int .i64 k, .string s], .int .i64 0]) ∧ Mod [] w w' := by
  go_enter Try.func56, Try.ntmps56
  go_wp2_with (fail)
  all_goals
    refine bodyPost_ret (v := .tuple #[.agg #[.bool true, .int .i64 k, .string s], .int .i64 0]) (by simp [results, Try.results56, go_sem, *]) rfl ⟨rfl, ?_⟩
    repeat (with_reducible first | exact Mod.refl _ _ | refine Mod.drew ?_ | refine Mod.drewN ?_ _ | refine Mod.setCell ?_ _ (by first | (simp; done) | (simp; omega)) | refine Mod.alloc ?_ _ | refine Mod.trans ?_ (by assumption))

set_option maxRecDepth 100000 in
set_option maxHeartbeats 1600000 in
theorem r_beh_26f (kind area at_ ni k atx n : Int) (s : ByteArray) (w : World) (hs : s.size ≤ 16) (hj : atx < at_) (hj2 : at_ ≤ n) (hk : (k != 1) = true) : Calls Try.prog 56 #[.agg #[.int .i64 26, .int .i64 kind, .int .i64 area, .int .i64 at_, .int .i64 ni], .int .i64 atx, .int .i64 n, .agg #[.bool true, .int .i64 k, .string s]] w fun e w' => e = .returned (.tuple #[.agg #[.bool true, .int .i64 k, .string s], .int .i64 6]) ∧ Mod [] w w' := by
  go_enter Try.func56, Try.ntmps56
  go_wp2_with (fail)
  all_goals
    refine bodyPost_ret (v := .tuple #[.agg #[.bool true, .int .i64 k, .string s], .int .i64 6]) (by simp [results, Try.results56, go_sem, *]) rfl ⟨rfl, ?_⟩
    repeat (with_reducible first | exact Mod.refl _ _ | refine Mod.drew ?_ | refine Mod.drewN ?_ _ | refine Mod.setCell ?_ _ (by first | (simp; done) | (simp; omega)) | refine Mod.alloc ?_ _ | refine Mod.trans ?_ (by assumption))

set_option maxRecDepth 100000 in
set_option maxHeartbeats 1600000 in
theorem r_beh_27a (kind area at_ ni k atx n : Int) (s : ByteArray) (w : World) (hs : s.size ≤ 16) (hj : at_ ≤ atx) : Calls Try.prog 56 #[.agg #[.int .i64 27, .int .i64 kind, .int .i64 area, .int .i64 at_, .int .i64 ni], .int .i64 atx, .int .i64 n, .agg #[.bool true, .int .i64 k, .string s]] w fun e w' => e = .returned (.tuple #[.agg #[.bool true, .int .i64 k, .string s], .int .i64 7]) ∧ Mod [] w w' := by
  go_enter Try.func56, Try.ntmps56
  go_wp2_with (fail)
  all_goals
    refine bodyPost_ret (v := .tuple #[.agg #[.bool true, .int .i64 k, .string s], .int .i64 7]) (by simp [results, Try.results56, go_sem, *]) rfl ⟨rfl, ?_⟩
    repeat (with_reducible first | exact Mod.refl _ _ | refine Mod.drew ?_ | refine Mod.drewN ?_ _ | refine Mod.setCell ?_ _ (by first | (simp; done) | (simp; omega)) | refine Mod.alloc ?_ _ | refine Mod.trans ?_ (by assumption))

set_option maxRecDepth 100000 in
set_option maxHeartbeats 1600000 in
theorem r_beh_27b (kind area at_ ni k atx n : Int) (s : ByteArray) (w : World) (hs : s.size ≤ 16) (hj : atx < at_) (hj2 : n < at_) : Calls Try.prog 56 #[.agg #[.int .i64 27, .int .i64 kind, .int .i64 area, .int .i64 at_, .int .i64 ni], .int .i64 atx, .int .i64 n, .agg #[.bool true, .int .i64 k, .string s]] w fun e w' => e = .returned (.tuple #[.agg #[.bool true, .int .i64 k, .string s], .int .i64 7]) ∧ Mod [] w w' := by
  go_enter Try.func56, Try.ntmps56
  go_wp2_with (fail)
  all_goals
    refine bodyPost_ret (v := .tuple #[.agg #[.bool true, .int .i64 k, .string s], .int .i64 7]) (by simp [results, Try.results56, go_sem, *]) rfl ⟨rfl, ?_⟩
    repeat (with_reducible first | exact Mod.refl _ _ | refine Mod.drew ?_ | refine Mod.drewN ?_ _ | refine Mod.setCell ?_ _ (by first | (simp; done) | (simp; omega)) | refine Mod.alloc ?_ _ | refine Mod.trans ?_ (by assumption))

set_option maxRecDepth 100000 in
set_option maxHeartbeats 1600000 in
theorem r_beh_27t (kind area at_ ni k atx n : Int) (s : ByteArray) (w : World) (hs : s.size ≤ 16) (hj : atx < at_) (hj2 : at_ ≤ n) (hk : (k != 1) = false) : Calls Try.prog 56 #[.agg #[.int .i64 27, .int .i64 kind, .int .i64 area, .int .i64 at_, .int .i64 ni], .int .i64 atx, .int .i64 n, .agg #[.bool true, .int .i64 k, .string s]] w fun e w' => e = .returned (.tuple #[.agg #[.bool true, .int .i64 k, .string s], .int .i64 0]) ∧ Mod [] w w' := by
  go_enter Try.func56, Try.ntmps56
  go_wp2_with (fail)
  all_goals
    refine bodyPost_ret (v := .tuple #[.agg #[.bool true, .int .i64 k, .string s], .int .i64 0]) (by simp [results, Try.results56, go_sem, *]) rfl ⟨rfl, ?_⟩
    repeat (with_reducible first | exact Mod.refl _ _ | refine Mod.drew ?_ | refine Mod.drewN ?_ _ | refine Mod.setCell ?_ _ (by first | (simp; done) | (simp; omega)) | refine Mod.alloc ?_ _ | refine Mod.trans ?_ (by assumption))

set_option maxRecDepth 100000 in
set_option maxHeartbeats 1600000 in
theorem r_beh_27f (kind area at_ ni k atx n : Int) (s : ByteArray) (w : World) (hs : s.size ≤ 16) (hj : atx < at_) (hj2 : at_ ≤ n) (hk : (k != 1) = true) : Calls Try.prog 56 #[.agg #[.int .i64 27, .int .i64 kind, .int .i64 area, .int .i64 at_, .int .i64 ni], .int .i64 atx, .int .i64 n, .agg #[.bool true, .int .i64 k, .string s]] w fun e w' => e = .returned (.tuple #[.agg #[.bool true, .int .i64 k, .string s], .int .i64 6]) ∧ Mod [] w w' := by
  go_enter Try.func56, Try.ntmps56
  go_wp2_with (fail)
  all_goals
    refine bodyPost_ret (v := .tuple #[.agg #[.bool true, .int .i64 k, .string s], .int .i64 6]) (by simp [results, Try.results56, go_sem, *]) rfl ⟨rfl, ?_⟩
    repeat (with_reducible first | exact Mod.refl _ _ | refine Mod.drew ?_ | refine Mod.drewN ?_ _ | refine Mod.setCell ?_ _ (by first | (simp; done) | (simp; omega)) | refine Mod.alloc ?_ _ | refine Mod.trans ?_ (by assumption))

set_option maxRecDepth 100000 in
set_option maxHeartbeats 1600000 in
theorem r_beh_28t (kind area at_ ni k atx n : Int) (s : ByteArray) (w : World) (hs : s.size ≤ 16) (d : Nat) (hd : ((s.size : Nat) : Int) / 2 = (d : Int)) (h0 : d = 0) : Calls Try.prog 56 #[.agg #[.int .i64 28, .int .i64 kind, .int .i64 area, .int .i64 at_, .int .i64 ni], .int .i64 atx, .int .i64 n, .agg #[.bool true, .int .i64 k, .string s]] w fun e w' => e = .returned (.tuple #[.agg #[.bool true, .int .i64 k, .string s], .int .i64 0]) ∧ Mod [] w w' := by
  subst h0
  go_enter Try.func56, Try.ntmps56
  go_wp2_with (fail)
  all_goals
    refine bodyPost_ret (v := .tuple #[.agg #[.bool true, .int .i64 k, .string s], .int .i64 0]) (by simp [results, Try.results56, go_sem, *]) rfl ⟨rfl, ?_⟩
    repeat (with_reducible first | exact Mod.refl _ _ | refine Mod.drew ?_ | refine Mod.drewN ?_ _ | refine Mod.setCell ?_ _ (by first | (simp; done) | (simp; omega)) | refine Mod.alloc ?_ _ | refine Mod.trans ?_ (by assumption))

set_option maxRecDepth 100000 in
set_option maxHeartbeats 1600000 in
theorem r_beh_28f (kind area at_ ni k atx n : Int) (s : ByteArray) (w : World) (hs : s.size ≤ 16) (d : Nat) (hd : ((s.size : Nat) : Int) / 2 = (d : Int)) (h0 : 0 < d) : Calls Try.prog 56 #[.agg #[.int .i64 28, .int .i64 kind, .int .i64 area, .int .i64 at_, .int .i64 ni], .int .i64 atx, .int .i64 n, .agg #[.bool true, .int .i64 k, .string s]] w fun e w' => e = .returned (.tuple #[.agg #[.bool true, .int .i64 k, .string s], .int .i64 3]) ∧ Mod [] w w' := by
  go_enter Try.func56, Try.ntmps56
  go_wp2_with (fail)
  all_goals
    refine bodyPost_ret (v := .tuple #[.agg #[.bool true, .int .i64 k, .string s], .int .i64 3]) (by simp [results, Try.results56, go_sem, *]) rfl ⟨rfl, ?_⟩
    repeat (with_reducible first | exact Mod.refl _ _ | refine Mod.drew ?_ | refine Mod.drewN ?_ _ | refine Mod.setCell ?_ _ (by first | (simp; done) | (simp; omega)) | refine Mod.alloc ?_ _ | refine Mod.trans ?_ (by assumption))

set_option maxRecDepth 100000 in
set_option maxHeartbeats 1600000 in
theorem r_beh_29f (kind area at_ ni k atx n : Int) (s : ByteArray) (w : World) (hs : s.size ≤ 16) (hk : (k != 1) = true) : Calls Try.prog 56 #[.agg #[.int .i64 29, .int .i64 kind, .int .i64 area, .int .i64 at_, .int .i64 ni], .int .i64 atx, .int .i64 n, .agg #[.bool true, .int .i64 k, .string s]] w fun e w' => e = .returned (.tuple #[.agg #[.bool true, .int .i64 k, .string s], .int .i64 6]) ∧ Mod [] w w' := by
  go_enter Try.func56, Try.ntmps56
  go_wp2_with (fail)
  all_goals
    refine bodyPost_ret (v := .tuple #[.agg #[.bool true, .int .i64 k, .string s], .int .i64 6]) (by simp [results, Try.results56, go_sem, *]) rfl ⟨rfl, ?_⟩
    repeat (with_reducible first | exact Mod.refl _ _ | refine Mod.drew ?_ | refine Mod.drewN ?_ _ | refine Mod.setCell ?_ _ (by first | (simp; done) | (simp; omega)) | refine Mod.alloc ?_ _ | refine Mod.trans ?_ (by assumption))

set_option maxRecDepth 100000 in
set_option maxHeartbeats 1600000 in
theorem r_beh_29t (kind area at_ ni k atx n : Int) (s : ByteArray) (w : World) (hs : s.size ≤ 16) (d : Nat) (hd : ((s.size : Nat) : Int) / 2 = (d : Int)) (hk : (k != 1) = false) (h0 : d = 0) : Calls Try.prog 56 #[.agg #[.int .i64 29, .int .i64 kind, .int .i64 area, .int .i64 at_, .int .i64 ni], .int .i64 atx, .int .i64 n, .agg #[.bool true, .int .i64 k, .string s]] w fun e w' => e = .returned (.tuple #[.agg #[.bool true, .int .i64 k, .string s], .int .i64 0]) ∧ Mod [] w w' := by
  subst h0
  go_enter Try.func56, Try.ntmps56
  go_wp2_with (fail)
  all_goals
    refine bodyPost_ret (v := .tuple #[.agg #[.bool true, .int .i64 k, .string s], .int .i64 0]) (by simp [results, Try.results56, go_sem, *]) rfl ⟨rfl, ?_⟩
    repeat (with_reducible first | exact Mod.refl _ _ | refine Mod.drew ?_ | refine Mod.drewN ?_ _ | refine Mod.setCell ?_ _ (by first | (simp; done) | (simp; omega)) | refine Mod.alloc ?_ _ | refine Mod.trans ?_ (by assumption))

set_option maxRecDepth 100000 in
set_option maxHeartbeats 1600000 in
theorem r_beh_29g (kind area at_ ni k atx n : Int) (s : ByteArray) (w : World) (hs : s.size ≤ 16) (d : Nat) (hd : ((s.size : Nat) : Int) / 2 = (d : Int)) (hk : (k != 1) = false) (h0 : 0 < d) : Calls Try.prog 56 #[.agg #[.int .i64 29, .int .i64 kind, .int .i64 area, .int .i64 at_, .int .i64 ni], .int .i64 atx, .int .i64 n, .agg #[.bool true, .int .i64 k, .string s]] w fun e w' => e = .returned (.tuple #[.agg #[.bool true, .int .i64 k, .string s], .int .i64 3]) ∧ Mod [] w w' := by
  go_enter Try.func56, Try.ntmps56
  go_wp2_with (fail)
  all_goals
    refine bodyPost_ret (v := .tuple #[.agg #[.bool true, .int .i64 k, .string s], .int .i64 3]) (by simp [results, Try.results56, go_sem, *]) rfl ⟨rfl, ?_⟩
    repeat (with_reducible first | exact Mod.refl _ _ | refine Mod.drew ?_ | refine Mod.drewN ?_ _ | refine Mod.setCell ?_ _ (by first | (simp; done) | (simp; omega)) | refine Mod.alloc ?_ _ | refine Mod.trans ?_ (by assumption))

set_option maxRecDepth 100000 in
set_option maxHeartbeats 1600000 in
theorem r_beh_30f (kind area at_ ni k atx n : Int) (s : ByteArray) (w : World) (hs : s.size ≤ 16) (hk : (k != 1) = true) : Calls Try.prog 56 #[.agg #[.int .i64 30, .int .i64 kind, .int .i64 area, .int .i64 at_, .int .i64 ni], .int .i64 atx, .int .i64 n, .agg #[.bool true, .int .i64 k, .string s]] w fun e w' => e = .returned (.tuple #[.agg #[.bool true, .int .i64 k, .string s], .int .i64 6]) ∧ Mod [] w w' := by
  go_enter Try.func56, Try.ntmps56
  go_wp2_with (fail)
  all_goals
    refine bodyPost_ret (v := .tuple #[.agg #[.bool true, .int .i64 k, .string s], .int .i64 6]) (by simp [results, Try.results56, go_sem, *]) rfl ⟨rfl, ?_⟩
    repeat (with_reducible first | exact Mod.refl _ _ | refine Mod.drew ?_ | refine Mod.drewN ?_ _ | refine Mod.setCell ?_ _ (by first | (simp; done) | (simp; omega)) | refine Mod.alloc ?_ _ | refine Mod.trans ?_ (by assumption))

set_option maxRecDepth 100000 in
set_option maxHeartbeats 1600000 in
theorem r_beh_30t (kind area at_ ni k atx n : Int) (s : ByteArray) (w : World) (hs : s.size ≤ 16) (d : Nat) (hd : ((s.size : Nat) : Int) / 2 = (d : Int)) (hk : (k != 1) = false) (h0 : d = 0) : Calls Try.prog 56 #[.agg #[.int .i64 30, .int .i64 kind, .int .i64 area, .int .i64 at_, .int .i64 ni], .int .i64 atx, .int .i64 n, .agg #[.bool true, .int .i64 k, .string s]] w fun e w' => e = .returned (.tuple #[.agg #[.bool true, .int .i64 k, .string s], .int .i64 0]) ∧ Mod [] w w' := by
  subst h0
  go_enter Try.func56, Try.ntmps56
  go_wp2_with (fail)
  all_goals
    refine bodyPost_ret (v := .tuple #[.agg #[.bool true, .int .i64 k, .string s], .int .i64 0]) (by simp [results, Try.results56, go_sem, *]) rfl ⟨rfl, ?_⟩
    repeat (with_reducible first | exact Mod.refl _ _ | refine Mod.drew ?_ | refine Mod.drewN ?_ _ | refine Mod.setCell ?_ _ (by first | (simp; done) | (simp; omega)) | refine Mod.alloc ?_ _ | refine Mod.trans ?_ (by assumption))

set_option maxRecDepth 100000 in
set_option maxHeartbeats 1600000 in
theorem r_beh_30g (kind area at_ ni k atx n : Int) (s : ByteArray) (w : World) (hs : s.size ≤ 16) (d : Nat) (hd : ((s.size : Nat) : Int) / 2 = (d : Int)) (hk : (k != 1) = false) (h0 : 0 < d) : Calls Try.prog 56 #[.agg #[.int .i64 30, .int .i64 kind, .int .i64 area, .int .i64 at_, .int .i64 ni], .int .i64 atx, .int .i64 n, .agg #[.bool true, .int .i64 k, .string s]] w fun e w' => e = .returned (.tuple #[.agg #[.bool true, .int .i64 k, .string s], .int .i64 3]) ∧ Mod [] w w' := by
  go_enter Try.func56, Try.ntmps56
  go_wp2_with (fail)
  all_goals
    refine bodyPost_ret (v := .tuple #[.agg #[.bool true, .int .i64 k, .string s], .int .i64 3]) (by simp [results, Try.results56, go_sem, *]) rfl ⟨rfl, ?_⟩
    repeat (with_reducible first | exact Mod.refl _ _ | refine Mod.drew ?_ | refine Mod.drewN ?_ _ | refine Mod.setCell ?_ _ (by first | (simp; done) | (simp; omega)) | refine Mod.alloc ?_ _ | refine Mod.trans ?_ (by assumption))

set_option maxRecDepth 100000 in
set_option maxHeartbeats 1600000 in
theorem r_beh_31t (kind area at_ ni k atx n : Int) (s : ByteArray) (w : World) (hs : s.size ≤ 16) (hk : (k == 0) = false) : Calls Try.prog 56 #[.agg #[.int .i64 31, .int .i64 kind, .int .i64 area, .int .i64 at_, .int .i64 ni], .int .i64 atx, .int .i64 n, .agg #[.bool true, .int .i64 k, .string s]] w fun e w' => e = .returned (.tuple #[.agg #[.bool true, .int .i64 kind, .string s], .int .i64 0]) ∧ Mod [] w w' := by
  go_enter Try.func56, Try.ntmps56
  go_wp2_with (fail)
  all_goals
    refine bodyPost_ret (v := .tuple #[.agg #[.bool true, .int .i64 kind, .string s], .int .i64 0]) (by simp [results, Try.results56, go_sem, *]) rfl ⟨rfl, ?_⟩
    repeat (with_reducible first | exact Mod.refl _ _ | refine Mod.drew ?_ | refine Mod.drewN ?_ _ | refine Mod.setCell ?_ _ (by first | (simp; done) | (simp; omega)) | refine Mod.alloc ?_ _ | refine Mod.trans ?_ (by assumption))

set_option maxRecDepth 100000 in
set_option maxHeartbeats 1600000 in
theorem r_beh_31f (kind area at_ ni k atx n : Int) (s : ByteArray) (w : World) (hs : s.size ≤ 16) (hk : (k == 0) = true) : Calls Try.prog 56 #[.agg #[.int .i64 31, .int .i64 kind, .int .i64 area, .int .i64 at_, .int .i64 ni], .int .i64 atx, .int .i64 n, .agg #[.bool true, .int .i64 k, .string s]] w fun e w' => e = .returned (.tuple #[.agg #[.bool true, .int .i64 k, .string s], .int .i64 6]) ∧ Mod [] w w' := by
  go_enter Try.func56, Try.ntmps56
  go_wp2_with (fail)
  all_goals
    refine bodyPost_ret (v := .tuple #[.agg #[.bool true, .int .i64 k, .string s], .int .i64 6]) (by simp [results, Try.results56, go_sem, *]) rfl ⟨rfl, ?_⟩
    repeat (with_reducible first | exact Mod.refl _ _ | refine Mod.drew ?_ | refine Mod.drewN ?_ _ | refine Mod.setCell ?_ _ (by first | (simp; done) | (simp; omega)) | refine Mod.alloc ?_ _ | refine Mod.trans ?_ (by assumption))

set_option maxRecDepth 100000 in
set_option maxHeartbeats 1600000 in
theorem r_beh_32f (kind area at_ ni k atx n : Int) (s : ByteArray) (w : World) (hs : s.size ≤ 16) (hl : mayP at_ k = false) : Calls Try.prog 56 #[.agg #[.int .i64 32, .int .i64 kind, .int .i64 area, .int .i64 at_, .int .i64 ni], .int .i64 atx, .int .i64 n, .agg #[.bool true, .int .i64 k, .string s]] w fun e w' => e = .returned (.tuple #[.agg #[.bool true, .int .i64 k, .string s], .int .i64 6]) ∧ Mod [] w w' := by
  have HL := Lib.hid hl
  clear hl
  go_enter Try.func56, Try.ntmps56
  go_wp2_with ((go_at_call 71; refine (r_may _ _ _).mono ?_; rintro e w1 ⟨rfl, hm⟩; rw [HL.out]; have hq0 := Blk.mod (b := w.heap.size) (T := 54) (cs := [.int .i64 32, .int .i64 kind, .int .i64 area, .int .i64 at_, .int .i64 ni]) (by repeat (with_reducible first | exact Blk.new' rfl | (refine Blk.new' ?_; simp; done) | apply Blk.set | apply Blk.alloc | assumption)) hm (by simp); have q0 := hq0.cell; have fq0 := hq0.frozen; have lq0 := hq0.lt; have hq1 := Blk.mod (b := w.heap.size + 1) (T := 90) (cs := [.bool true, .int .i64 k, .string s]) (by repeat (with_reducible first | exact Blk.new' rfl | (refine Blk.new' ?_; simp; done) | apply Blk.set | apply Blk.alloc | assumption)) hm (by simp); have q1 := hq1.cell; have fq1 := hq1.frozen; have lq1 := hq1.lt; have hq2 := Blk.mod (b := w.heap.size + 1 + 1) (T := 90) (cs := [.bool false, .int .i64 0, .string ⟨#[]⟩]) (by repeat (with_reducible first | exact Blk.new' rfl | (refine Blk.new' ?_; simp; done) | apply Blk.set | apply Blk.alloc | assumption)) hm (by simp); have q2 := hq2.cell; have fq2 := hq2.frozen; have lq2 := hq2.lt; have hq3 := Blk.mod (b := w.heap.size + 1 + 1 + 1) (T := 90) (cs := [.bool true, .int .i64 k, .string s]) (by repeat (with_reducible first | exact Blk.new' rfl | (refine Blk.new' ?_; simp; done) | apply Blk.set | apply Blk.alloc | assumption)) hm (by simp); have q3 := hq3.cell; have fq3 := hq3.frozen; have lq3 := hq3.lt))
  all_goals
    refine bodyPost_ret (v := .tuple #[.agg #[.bool true, .int .i64 k, .string s], .int .i64 6]) (by simp [results, Try.results56, go_sem, *]) rfl ⟨rfl, ?_⟩
    repeat (with_reducible first | exact Mod.refl _ _ | refine Mod.drew ?_ | refine Mod.drewN ?_ _ | refine Mod.setCell ?_ _ (by first | (simp; done) | (simp; omega)) | refine Mod.alloc ?_ _ | refine Mod.trans ?_ (by assumption))

set_option maxRecDepth 100000 in
set_option maxHeartbeats 1600000 in
theorem r_beh_32g (kind area at_ ni k atx n : Int) (s : ByteArray) (w : World) (hs : s.size ≤ 16) (d : Nat) (hd : ((s.size : Nat) : Int) / 2 = (d : Int)) (hl : mayP at_ k = true) (h0 : ((d : Int) == 8) = true) : Calls Try.prog 56 #[.agg #[.int .i64 32, .int .i64 kind, .int .i64 area, .int .i64 at_, .int .i64 ni], .int .i64 atx, .int .i64 n, .agg #[.bool true, .int .i64 k, .string s]] w fun e w' => e = .returned (.tuple #[.agg #[.bool true, .int .i64 k, .string s], .int .i64 8]) ∧ Mod [] w w' := by
  have HL := Lib.hid hl
  clear hl
  go_enter Try.func56, Try.ntmps56
  go_wp2_with ((go_at_call 71; refine (r_may _ _ _).mono ?_; rintro e w1 ⟨rfl, hm⟩; rw [HL.out]; have hq0 := Blk.mod (b := w.heap.size) (T := 54) (cs := [.int .i64 32, .int .i64 kind, .int .i64 area, .int .i64 at_, .int .i64 ni]) (by repeat (with_reducible first | exact Blk.new' rfl | (refine Blk.new' ?_; simp; done) | apply Blk.set | apply Blk.alloc | assumption)) hm (by simp); have q0 := hq0.cell; have fq0 := hq0.frozen; have lq0 := hq0.lt; have hq1 := Blk.mod (b := w.heap.size + 1) (T := 90) (cs := [.bool true, .int .i64 k, .string s]) (by repeat (with_reducible first | exact Blk.new' rfl | (refine Blk.new' ?_; simp; done) | apply Blk.set | apply Blk.alloc | assumption)) hm (by simp); have q1 := hq1.cell; have fq1 := hq1.frozen; have lq1 := hq1.lt; have hq2 := Blk.mod (b := w.heap.size + 1 + 1) (T := 90) (cs := [.bool false, .int .i64 0, .string ⟨#[]⟩]) (by repeat (with_reducible first | exact Blk.new' rfl | (refine Blk.new' ?_; simp; done) | apply Blk.set | apply Blk.alloc | assumption)) hm (by simp); have q2 := hq2.cell; have fq2 := hq2.frozen; have lq2 := hq2.lt; have hq3 := Blk.mod (b := w.heap.size + 1 + 1 + 1) (T := 90) (cs := [.bool true, .int .i64 k, .string s]) (by repeat (with_reducible first | exact Blk.new' rfl | (refine Blk.new' ?_; simp; done) | apply Blk.set | apply Blk.alloc | assumption)) hm (by simp); have q3 := hq3.cell; have fq3 := hq3.frozen; have lq3 := hq3.lt))
  all_goals
    refine bodyPost_ret (v := .tuple #[.agg #[.bool true, .int .i64 k, .string s], .int .i64 8]) (by simp [results, Try.results56, go_sem, *]) rfl ⟨rfl, ?_⟩
    repeat (with_reducible first | exact Mod.refl _ _ | refine Mod.drew ?_ | refine Mod.drewN ?_ _ | refine Mod.setCell ?_ _ (by first | (simp; done) | (simp; omega)) | refine Mod.alloc ?_ _ | refine Mod.trans ?_ (by assumption))

set_option maxRecDepth 100000 in
set_option maxHeartbeats 1600000 in
theorem r_beh_33f (kind area at_ ni k atx n : Int) (s : ByteArray) (w : World) (hs : s.size ≤ 16) (d : Nat) (hd : ((s.size : Nat) : Int) / 2 = (d : Int)) (h0 : d = 0) : Calls Try.prog 56 #[.agg #[.int .i64 33, .int .i64 kind, .int .i64 area, .int .i64 at_, .int .i64 ni], .int .i64 atx, .int .i64 n, .agg #[.bool true, .int .i64 k, .string s]] w fun e w' => e = .returned (.tuple #[.agg #[.bool true, .int .i64 k, .string s], .int .i64 3]) ∧ Mod [] w w' := by
  subst h0
  go_enter Try.func56, Try.ntmps56
  go_wp2_with (fail)
  all_goals
    refine bodyPost_ret (v := .tuple #[.agg #[.bool true, .int .i64 k, .string s], .int .i64 3]) (by simp [results, Try.results56, go_sem, *]) rfl ⟨rfl, ?_⟩
    repeat (with_reducible first | exact Mod.refl _ _ | refine Mod.drew ?_ | refine Mod.drewN ?_ _ | refine Mod.setCell ?_ _ (by first | (simp; done) | (simp; omega)) | refine Mod.alloc ?_ _ | refine Mod.trans ?_ (by assumption))

set_option maxRecDepth 100000 in
set_option maxHeartbeats 1600000 in
theorem r_beh_34t (kind area at_ ni k atx n : Int) (s : ByteArray) (w : World) (hs : s.size ≤ 16) (hk : (k != 1) = false) : Calls Try.prog 56 #[.agg #[.int .i64 34, .int .i64 kind, .int .i64 area, .int .i64 at_, .int .i64 ni], .int .i64 atx, .int .i64 n, .agg #[.bool true, .int .i64 k, .string s]] w fun e w' => e = .returned (.tuple #[.agg #[.bool true, .int .i64 k, .string s], .int .i64 0]) ∧ Mod [] w w' := by
  go_enter Try.func56, Try.ntmps56
  go_wp2_with (fail)
  all_goals
    refine bodyPost_ret (v := .tuple #[.agg #[.bool true, .int .i64 k, .string s], .int .i64 0]) (by simp [results, Try.results56, go_sem, *]) rfl ⟨rfl, ?_⟩
    repeat (with_reducible first | exact Mod.refl _ _ | refine Mod.drew ?_ | refine Mod.drewN ?_ _ | refine Mod.setCell ?_ _ (by first | (simp; done) | (simp; omega)) | refine Mod.alloc ?_ _ | refine Mod.trans ?_ (by assumption))

set_option maxRecDepth 100000 in
set_option maxHeartbeats 1600000 in
theorem r_beh_34f (kind area at_ ni k atx n : Int) (s : ByteArray) (w : World) (hs : s.size ≤ 16) (hk : (k != 1) = true) : Calls Try.prog 56 #[.agg #[.int .i64 34, .int .i64 kind, .int .i64 area, .int .i64 at_, .int .i64 ni], .int .i64 atx, .int .i64 n, .agg #[.bool true, .int .i64 k, .string s]] w fun e w' => e = .returned (.tuple #[.agg #[.bool true, .int .i64 k, .string s], .int .i64 6]) ∧ Mod [] w w' := by
  go_enter Try.func56, Try.ntmps56
  go_wp2_with (fail)
  all_goals
    refine bodyPost_ret (v := .tuple #[.agg #[.bool true, .int .i64 k, .string s], .int .i64 6]) (by simp [results, Try.results56, go_sem, *]) rfl ⟨rfl, ?_⟩
    repeat (with_reducible first | exact Mod.refl _ _ | refine Mod.drew ?_ | refine Mod.drewN ?_ _ | refine Mod.setCell ?_ _ (by first | (simp; done) | (simp; omega)) | refine Mod.alloc ?_ _ | refine Mod.trans ?_ (by assumption))

set_option maxRecDepth 100000 in
set_option maxHeartbeats 1600000 in
theorem r_beh_35t (kind area at_ ni k atx n : Int) (s : ByteArray) (w : World) (hs : s.size ≤ 16) (hk : (k != 1) = false) : Calls Try.prog 56 #[.agg #[.int .i64 35, .int .i64 kind, .int .i64 area, .int .i64 at_, .int .i64 ni], .int .i64 atx, .int .i64 n, .agg #[.bool true, .int .i64 k, .string s]] w fun e w' => e = .returned (.tuple #[.agg #[.bool true, .int .i64 k, .string s], .int .i64 0]) ∧ Mod [] w w' := by
  go_enter Try.func56, Try.ntmps56
  go_wp2_with (fail)
  all_goals
    refine bodyPost_ret (v := .tuple #[.agg #[.bool true, .int .i64 k, .string s], .int .i64 0]) (by simp [results, Try.results56, go_sem, *]) rfl ⟨rfl, ?_⟩
    repeat (with_reducible first | exact Mod.refl _ _ | refine Mod.drew ?_ | refine Mod.drewN ?_ _ | refine Mod.setCell ?_ _ (by first | (simp; done) | (simp; omega)) | refine Mod.alloc ?_ _ | refine Mod.trans ?_ (by assumption))

set_option maxRecDepth 100000 in
set_option maxHeartbeats 1600000 in
theorem r_beh_35f (kind area at_ ni k atx n : Int) (s : ByteArray) (w : World) (hs : s.size ≤ 16) (hk : (k != 1) = true) : Calls Try.prog 56 #[.agg #[.int .i64 35, .int .i64 kind, .int .i64 area, .int .i64 at_, .int .i64 ni], .int .i64 atx, .int .i64 n, .agg #[.bool true, .int .i64 k, .string s]] w fun e w' => e = .returned (.tuple #[.agg #[.bool true, .int .i64 k, .string s], .int .i64 6]) ∧ Mod [] w w' := by
  go_enter Try.func56, Try.ntmps56
  go_wp2_with (fail)
  all_goals
    refine bodyPost_ret (v := .tuple #[.agg #[.bool true, .int .i64 k, .string s], .int .i64 6]) (by simp [results, Try.results56, go_sem, *]) rfl ⟨rfl, ?_⟩
    repeat (with_reducible first | exact Mod.refl _ _ | refine Mod.drew ?_ | refine Mod.drewN ?_ _ | refine Mod.setCell ?_ _ (by first | (simp; done) | (simp; omega)) | refine Mod.alloc ?_ _ | refine Mod.trans ?_ (by assumption))

set_option maxRecDepth 100000 in
set_option maxHeartbeats 1600000 in
theorem r_beh_36t (kind area at_ ni k atx n : Int) (s : ByteArray) (w : World) (hs : s.size ≤ 16) (hk : (k != 1) = false) : Calls Try.prog 56 #[.agg #[.int .i64 36, .int .i64 kind, .int .i64 area, .int .i64 at_, .int .i64 ni], .int .i64 atx, .int .i64 n, .agg #[.bool true, .int .i64 k, .string s]] w fun e w' => e = .returned (.tuple #[.agg #[.bool true, .int .i64 k, .string s], .int .i64 0]) ∧ Mod [] w w' := by
  go_enter Try.func56, Try.ntmps56
  go_wp2_with (fail)
  all_goals
    refine bodyPost_ret (v := .tuple #[.agg #[.bool true, .int .i64 k, .string s], .int .i64 0]) (by simp [results, Try.results56, go_sem, *]) rfl ⟨rfl, ?_⟩
    repeat (with_reducible first | exact Mod.refl _ _ | refine Mod.drew ?_ | refine Mod.drewN ?_ _ | refine Mod.setCell ?_ _ (by first | (simp; done) | (simp; omega)) | refine Mod.alloc ?_ _ | refine Mod.trans ?_ (by assumption))

set_option maxRecDepth 100000 in
set_option maxHeartbeats 1600000 in
theorem r_beh_36f (kind area at_ ni k atx n : Int) (s : ByteArray) (w : World) (hs : s.size ≤ 16) (hk : (k != 1) = true) : Calls Try.prog 56 #[.agg #[.int .i64 36, .int .i64 kind, .int .i64 area, .int .i64 at_, .int .i64 ni], .int .i64 atx, .int .i64 n, .agg #[.bool true, .int .i64 k, .string s]] w fun e w' => e = .returned (.tuple #[.agg #[.bool true, .int .i64 k, .string s], .int .i64 6]) ∧ Mod [] w w' := by
  go_enter Try.func56, Try.ntmps56
  go_wp2_with (fail)
  all_goals
    refine bodyPost_ret (v := .tuple #[.agg #[.bool true, .int .i64 k, .string s], .int .i64 6]) (by simp [results, Try.results56, go_sem, *]) rfl ⟨rfl, ?_⟩
    repeat (with_reducible first | exact Mod.refl _ _ | refine Mod.drew ?_ | refine Mod.drewN ?_ _ | refine Mod.setCell ?_ _ (by first | (simp; done) | (simp; omega)) | refine Mod.alloc ?_ _ | refine Mod.trans ?_ (by assumption))

end Go.Proofs.Ytedmikeamgebjaa
