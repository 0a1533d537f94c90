/- The reference's behind: what is behind an instruction. -/
import Derived.Test.YtedmikeamgebjaaVRefE
set_option linter.unusedVariables false
set_option linter.unusedSimpArgs false
namespace Go.Proofs.Ytedmikeamgebjaa
open Go.RowKit

theorem neqT {a b : Int} (h : a ≠ b) : (a != b) = true := by rw [bne_iff_ne]; exact h
theorem neqF {a b : Int} (h : a = b) : (a != b) = false := by subst h; simp
theorem eqT {a b : Int} (h : a = b) : (a == b) = true := by subst h; simp
theorem eqF {a b : Int} (h : a ≠ b) : (a == b) = false := by rw [beq_eq_false_iff_ne]; exact h
set_option maxRecDepth 100000 in
set_option maxHeartbeats 1600000 in
theorem r_beh_1 (kind area at_ ni k atx n : Int) (s : ByteArray) (w : World) (hs : s.size ≤ 16) : Calls Try.prog 56 #[.agg #[.int .i64 1, .int .i64 kind, .int .i64 area, .int .i64 at_, .int .i64 ni], .int .i64 atx, .int .i64 n, .agg #[.bool true, .int .i64 k, .string s]] w fun e w' => e = .returned (.tuple #[.agg #[.bool true, .int .i64 kind, .string s], .int .i64 0]) ∧ Mod [] w w' := by
  go_enter Try.func56, Try.ntmps56
  go_wp2_with (fail)
  all_goals
    refine bodyPost_ret (v := .tuple #[.agg #[.bool true, .int .i64 kind, .string s], .int .i64 0]) (by simp [results, Try.results56, go_sem, *]) rfl ⟨rfl, ?_⟩
    repeat (with_reducible first | exact Mod.refl _ _ | refine Mod.drew ?_ | refine Mod.drewN ?_ _ | refine Mod.setCell ?_ _ (by first | (simp; done) | (simp; omega)) | refine Mod.alloc ?_ _ | refine Mod.trans ?_ (by assumption))

set_option maxRecDepth 100000 in
set_option maxHeartbeats 1600000 in
theorem r_beh_2t (kind area at_ ni k atx n : Int) (s : ByteArray) (w : World) (hs : s.size ≤ 16) (hl : logicP kind = true) : Calls Try.prog 56 #[.agg #[.int .i64 2, .int .i64 kind, .int .i64 area, .int .i64 at_, .int .i64 ni], .int .i64 atx, .int .i64 n, .agg #[.bool true, .int .i64 k, .string s]] w fun e w' => e = .returned (.tuple #[.agg #[.bool true, .int .i64 kind, .string s], .int .i64 0]) ∧ Mod [] w w' := by
  have HL := Lib.hid hl
  clear hl
  go_enter Try.func56, Try.ntmps56
  go_wp2_with ((go_at_call 70; refine (r_logic _ _).mono ?_; rintro e w1 ⟨rfl, hm⟩; rw [HL.out]; have hq0 := Blk.mod (b := w.heap.size) (T := 54) (cs := [.int .i64 2, .int .i64 kind, .int .i64 area, .int .i64 at_, .int .i64 ni]) (by repeat (with_reducible first | exact Blk.new' rfl | (refine Blk.new' ?_; simp; done) | apply Blk.set | apply Blk.alloc | assumption)) hm (by simp); have q0 := hq0.cell; have fq0 := hq0.frozen; have lq0 := hq0.lt; have hq1 := Blk.mod (b := w.heap.size + 1) (T := 90) (cs := [.bool true, .int .i64 k, .string s]) (by repeat (with_reducible first | exact Blk.new' rfl | (refine Blk.new' ?_; simp; done) | apply Blk.set | apply Blk.alloc | assumption)) hm (by simp); have q1 := hq1.cell; have fq1 := hq1.frozen; have lq1 := hq1.lt; have hq2 := Blk.mod (b := w.heap.size + 1 + 1) (T := 90) (cs := [.bool false, .int .i64 0, .string ⟨#[]⟩]) (by repeat (with_reducible first | exact Blk.new' rfl | (refine Blk.new' ?_; simp; done) | apply Blk.set | apply Blk.alloc | assumption)) hm (by simp); have q2 := hq2.cell; have fq2 := hq2.frozen; have lq2 := hq2.lt; have hq3 := Blk.mod (b := w.heap.size + 1 + 1 + 1) (T := 90) (cs := [.bool true, .int .i64 k, .string s]) (by repeat (with_reducible first | exact Blk.new' rfl | (refine Blk.new' ?_; simp; done) | apply Blk.set | apply Blk.alloc | assumption)) hm (by simp); have q3 := hq3.cell; have fq3 := hq3.frozen; have lq3 := hq3.lt))
  all_goals
    refine bodyPost_ret (v := .tuple #[.agg #[.bool true, .int .i64 kind, .string s], .int .i64 0]) (by simp [results, Try.results56, go_sem, *]) rfl ⟨rfl, ?_⟩
    repeat (with_reducible first | exact Mod.refl _ _ | refine Mod.drew ?_ | refine Mod.drewN ?_ _ | refine Mod.setCell ?_ _ (by first | (simp; done) | (simp; omega)) | refine Mod.alloc ?_ _ | refine Mod.trans ?_ (by assumption))

set_option maxRecDepth 100000 in
set_option maxHeartbeats 1600000 in
theorem r_beh_2f (kind area at_ ni k atx n : Int) (s : ByteArray) (w : World) (hs : s.size ≤ 16) (hl : logicP kind = false) : Calls Try.prog 56 #[.agg #[.int .i64 2, .int .i64 kind, .int .i64 area, .int .i64 at_, .int .i64 ni], .int .i64 atx, .int .i64 n, .agg #[.bool true, .int .i64 k, .string s]] w fun e w' => e = .returned (.tuple #[.agg #[.bool true, .int .i64 k, .string s], .int .i64 6]) ∧ Mod [] w w' := by
  have HL := Lib.hid hl
  clear hl
  go_enter Try.func56, Try.ntmps56
  go_wp2_with ((go_at_call 70; refine (r_logic _ _).mono ?_; rintro e w1 ⟨rfl, hm⟩; rw [HL.out]; have hq0 := Blk.mod (b := w.heap.size) (T := 54) (cs := [.int .i64 2, .int .i64 kind, .int .i64 area, .int .i64 at_, .int .i64 ni]) (by repeat (with_reducible first | exact Blk.new' rfl | (refine Blk.new' ?_; simp; done) | apply Blk.set | apply Blk.alloc | assumption)) hm (by simp); have q0 := hq0.cell; have fq0 := hq0.frozen; have lq0 := hq0.lt; have hq1 := Blk.mod (b := w.heap.size + 1) (T := 90) (cs := [.bool true, .int .i64 k, .string s]) (by repeat (with_reducible first | exact Blk.new' rfl | (refine Blk.new' ?_; simp; done) | apply Blk.set | apply Blk.alloc | assumption)) hm (by simp); have q1 := hq1.cell; have fq1 := hq1.frozen; have lq1 := hq1.lt; have hq2 := Blk.mod (b := w.heap.size + 1 + 1) (T := 90) (cs := [.bool false, .int .i64 0, .string ⟨#[]⟩]) (by repeat (with_reducible first | exact Blk.new' rfl | (refine Blk.new' ?_; simp; done) | apply Blk.set | apply Blk.alloc | assumption)) hm (by simp); have q2 := hq2.cell; have fq2 := hq2.frozen; have lq2 := hq2.lt; have hq3 := Blk.mod (b := w.heap.size + 1 + 1 + 1) (T := 90) (cs := [.bool true, .int .i64 k, .string s]) (by repeat (with_reducible first | exact Blk.new' rfl | (refine Blk.new' ?_; simp; done) | apply Blk.set | apply Blk.alloc | assumption)) hm (by simp); have q3 := hq3.cell; have fq3 := hq3.frozen; have lq3 := hq3.lt))
  all_goals
    refine bodyPost_ret (v := .tuple #[.agg #[.bool true, .int .i64 k, .string s], .int .i64 6]) (by simp [results, Try.results56, go_sem, *]) rfl ⟨rfl, ?_⟩
    repeat (with_reducible first | exact Mod.refl _ _ | refine Mod.drew ?_ | refine Mod.drewN ?_ _ | refine Mod.setCell ?_ _ (by first | (simp; done) | (simp; omega)) | refine Mod.alloc ?_ _ | refine Mod.trans ?_ (by assumption))

set_option maxRecDepth 100000 in
set_option maxHeartbeats 1600000 in
theorem r_beh_3t (kind area at_ ni k atx n : Int) (s : ByteArray) (w : World) (hs : s.size ≤ 16) (hk : (k != kind) = false) : Calls Try.prog 56 #[.agg #[.int .i64 3, .int .i64 kind, .int .i64 area, .int .i64 at_, .int .i64 ni], .int .i64 atx, .int .i64 n, .agg #[.bool true, .int .i64 k, .string s]] w fun e w' => e = .returned (.tuple #[.agg #[.bool true, .int .i64 k, .string s], .int .i64 0]) ∧ Mod [] w w' := by
  go_enter Try.func56, Try.ntmps56
  go_wp2_with (fail)
  all_goals
    refine bodyPost_ret (v := .tuple #[.agg #[.bool true, .int .i64 k, .string s], .int .i64 0]) (by simp [results, Try.results56, go_sem, *]) rfl ⟨rfl, ?_⟩
    repeat (with_reducible first | exact Mod.refl _ _ | refine Mod.drew ?_ | refine Mod.drewN ?_ _ | refine Mod.setCell ?_ _ (by first | (simp; done) | (simp; omega)) | refine Mod.alloc ?_ _ | refine Mod.trans ?_ (by assumption))

set_option maxRecDepth 100000 in
set_option maxHeartbeats 1600000 in
theorem r_beh_3f (kind area at_ ni k atx n : Int) (s : ByteArray) (w : World) (hs : s.size ≤ 16) (hk : (k != kind) = true) : Calls Try.prog 56 #[.agg #[.int .i64 3, .int .i64 kind, .int .i64 area, .int .i64 at_, .int .i64 ni], .int .i64 atx, .int .i64 n, .agg #[.bool true, .int .i64 k, .string s]] w fun e w' => e = .returned (.tuple #[.agg #[.bool true, .int .i64 k, .string s], .int .i64 6]) ∧ Mod [] w w' := by
  go_enter Try.func56, Try.ntmps56
  go_wp2_with (fail)
  all_goals
    refine bodyPost_ret (v := .tuple #[.agg #[.bool true, .int .i64 k, .string s], .int .i64 6]) (by simp [results, Try.results56, go_sem, *]) rfl ⟨rfl, ?_⟩
    repeat (with_reducible first | exact Mod.refl _ _ | refine Mod.drew ?_ | refine Mod.drewN ?_ _ | refine Mod.setCell ?_ _ (by first | (simp; done) | (simp; omega)) | refine Mod.alloc ?_ _ | refine Mod.trans ?_ (by assumption))

set_option maxRecDepth 100000 in
set_option maxHeartbeats 1600000 in
theorem r_beh_4f (kind area at_ ni k atx n : Int) (s : ByteArray) (w : World) (hs : s.size ≤ 16) (hk : (k != kind) = true) : Calls Try.prog 56 #[.agg #[.int .i64 4, .int .i64 kind, .int .i64 area, .int .i64 at_, .int .i64 ni], .int .i64 atx, .int .i64 n, .agg #[.bool true, .int .i64 k, .string s]] w fun e w' => e = .returned (.tuple #[.agg #[.bool true, .int .i64 k, .string s], .int .i64 6]) ∧ Mod [] w w' := by
  go_enter Try.func56, Try.ntmps56
  go_wp2_with (fail)
  all_goals
    refine bodyPost_ret (v := .tuple #[.agg #[.bool true, .int .i64 k, .string s], .int .i64 6]) (by simp [results, Try.results56, go_sem, *]) rfl ⟨rfl, ?_⟩
    repeat (with_reducible first | exact Mod.refl _ _ | refine Mod.drew ?_ | refine Mod.drewN ?_ _ | refine Mod.setCell ?_ _ (by first | (simp; done) | (simp; omega)) | refine Mod.alloc ?_ _ | refine Mod.trans ?_ (by assumption))

set_option maxRecDepth 100000 in
set_option maxHeartbeats 1600000 in
theorem r_beh_4tt (kind area at_ ni k atx n : Int) (s : ByteArray) (w : World) (hs : s.size ≤ 16) (hk : (k != kind) = false) (hl : logicP kind = true) : Calls Try.prog 56 #[.agg #[.int .i64 4, .int .i64 kind, .int .i64 area, .int .i64 at_, .int .i64 ni], .int .i64 atx, .int .i64 n, .agg #[.bool true, .int .i64 k, .string s]] w fun e w' => e = .returned (.tuple #[.agg #[.bool true, .int .i64 k, .string s], .int .i64 0]) ∧ Mod [] w w' := by
  have HL := Lib.hid hl
  clear hl
  go_enter Try.func56, Try.ntmps56
  go_wp2_with ((go_at_call 70; refine (r_logic _ _).mono ?_; rintro e w1 ⟨rfl, hm⟩; rw [HL.out]; have hq0 := Blk.mod (b := w.heap.size) (T := 54) (cs := [.int .i64 4, .int .i64 kind, .int .i64 area, .int .i64 at_, .int .i64 ni]) (by repeat (with_reducible first | exact Blk.new' rfl | (refine Blk.new' ?_; simp; done) | apply Blk.set | apply Blk.alloc | assumption)) hm (by simp); have q0 := hq0.cell; have fq0 := hq0.frozen; have lq0 := hq0.lt; have hq1 := Blk.mod (b := w.heap.size + 1) (T := 90) (cs := [.bool true, .int .i64 k, .string s]) (by repeat (with_reducible first | exact Blk.new' rfl | (refine Blk.new' ?_; simp; done) | apply Blk.set | apply Blk.alloc | assumption)) hm (by simp); have q1 := hq1.cell; have fq1 := hq1.frozen; have lq1 := hq1.lt; have hq2 := Blk.mod (b := w.heap.size + 1 + 1) (T := 90) (cs := [.bool false, .int .i64 0, .string ⟨#[]⟩]) (by repeat (with_reducible first | exact Blk.new' rfl | (refine Blk.new' ?_; simp; done) | apply Blk.set | apply Blk.alloc | assumption)) hm (by simp); have q2 := hq2.cell; have fq2 := hq2.frozen; have lq2 := hq2.lt; have hq3 := Blk.mod (b := w.heap.size + 1 + 1 + 1) (T := 90) (cs := [.bool true, .int .i64 k, .string s]) (by repeat (with_reducible first | exact Blk.new' rfl | (refine Blk.new' ?_; simp; done) | apply Blk.set | apply Blk.alloc | assumption)) hm (by simp); have q3 := hq3.cell; have fq3 := hq3.frozen; have lq3 := hq3.lt))
  all_goals
    refine bodyPost_ret (v := .tuple #[.agg #[.bool true, .int .i64 k, .string s], .int .i64 0]) (by simp [results, Try.results56, go_sem, *]) rfl ⟨rfl, ?_⟩
    repeat (with_reducible first | exact Mod.refl _ _ | refine Mod.drew ?_ | refine Mod.drewN ?_ _ | refine Mod.setCell ?_ _ (by first | (simp; done) | (simp; omega)) | refine Mod.alloc ?_ _ | refine Mod.trans ?_ (by assumption))

set_option maxRecDepth 100000 in
set_option maxHeartbeats 1600000 in
theorem r_beh_4tf (kind area at_ ni k atx n : Int) (s : ByteArray) (w : World) (hs : s.size ≤ 16) (hk : (k != kind) = false) (hl : logicP kind = false) : Calls Try.prog 56 #[.agg #[.int .i64 4, .int .i64 kind, .int .i64 area, .int .i64 at_, .int .i64 ni], .int .i64 atx, .int .i64 n, .agg #[.bool true, .int .i64 k, .string s]] w fun e w' => e = .returned (.tuple #[.agg #[.bool true, .int .i64 k, .string s], .int .i64 6]) ∧ Mod [] w w' := by
  have HL := Lib.hid hl
  clear hl
  go_enter Try.func56, Try.ntmps56
  go_wp2_with ((go_at_call 70; refine (r_logic _ _).mono ?_; rintro e w1 ⟨rfl, hm⟩; rw [HL.out]; have hq0 := Blk.mod (b := w.heap.size) (T := 54) (cs := [.int .i64 4, .int .i64 kind, .int .i64 area, .int .i64 at_, .int .i64 ni]) (by repeat (with_reducible first | exact Blk.new' rfl | (refine Blk.new' ?_; simp; done) | apply Blk.set | apply Blk.alloc | assumption)) hm (by simp); have q0 := hq0.cell; have fq0 := hq0.frozen; have lq0 := hq0.lt; have hq1 := Blk.mod (b := w.heap.size + 1) (T := 90) (cs := [.bool true, .int .i64 k, .string s]) (by repeat (with_reducible first | exact Blk.new' rfl | (refine Blk.new' ?_; simp; done) | apply Blk.set | apply Blk.alloc | assumption)) hm (by simp); have q1 := hq1.cell; have fq1 := hq1.frozen; have lq1 := hq1.lt; have hq2 := Blk.mod (b := w.heap.size + 1 + 1) (T := 90) (cs := [.bool false, .int .i64 0, .string ⟨#[]⟩]) (by repeat (with_reducible first | exact Blk.new' rfl | (refine Blk.new' ?_; simp; done) | apply Blk.set | apply Blk.alloc | assumption)) hm (by simp); have q2 := hq2.cell; have fq2 := hq2.frozen; have lq2 := hq2.lt; have hq3 := Blk.mod (b := w.heap.size + 1 + 1 + 1) (T := 90) (cs := [.bool true, .int .i64 k, .string s]) (by repeat (with_reducible first | exact Blk.new' rfl | (refine Blk.new' ?_; simp; done) | apply Blk.set | apply Blk.alloc | assumption)) hm (by simp); have q3 := hq3.cell; have fq3 := hq3.frozen; have lq3 := hq3.lt))
  all_goals
    refine bodyPost_ret (v := .tuple #[.agg #[.bool true, .int .i64 k, .string s], .int .i64 6]) (by simp [results, Try.results56, go_sem, *]) rfl ⟨rfl, ?_⟩
    repeat (with_reducible first | exact Mod.refl _ _ | refine Mod.drew ?_ | refine Mod.drewN ?_ _ | refine Mod.setCell ?_ _ (by first | (simp; done) | (simp; omega)) | refine Mod.alloc ?_ _ | refine Mod.trans ?_ (by assumption))

set_option maxRecDepth 100000 in
set_option maxHeartbeats 1600000 in
theorem r_beh_5t (kind area at_ ni k atx n : Int) (s : ByteArray) (w : World) (hs : s.size ≤ 16) (hk : (k != 1) = false) (hk2 : (kind != 1) = false) : Calls Try.prog 56 #[.agg #[.int .i64 5, .int .i64 kind, .int .i64 area, .int .i64 at_, .int .i64 ni], .int .i64 atx, .int .i64 n, .agg #[.bool true, .int .i64 k, .string s]] w fun e w' => e = .returned (.tuple #[.agg #[.bool true, .int .i64 k, .string s], .int .i64 0]) ∧ Mod [] w w' := by
  go_enter Try.func56, Try.ntmps56
  go_wp2_with (fail)
  all_goals
    refine bodyPost_ret (v := .tuple #[.agg #[.bool true, .int .i64 k, .string s], .int .i64 0]) (by simp [results, Try.results56, go_sem, *]) rfl ⟨rfl, ?_⟩
    repeat (with_reducible first | exact Mod.refl _ _ | refine Mod.drew ?_ | refine Mod.drewN ?_ _ | refine Mod.setCell ?_ _ (by first | (simp; done) | (simp; omega)) | refine Mod.alloc ?_ _ | refine Mod.trans ?_ (by assumption))

set_option maxRecDepth 100000 in
set_option maxHeartbeats 1600000 in
theorem r_beh_5f (kind area at_ ni k atx n : Int) (s : ByteArray) (w : World) (hs : s.size ≤ 16) (hk : (k != 1) = true) : Calls Try.prog 56 #[.agg #[.int .i64 5, .int .i64 kind, .int .i64 area, .int .i64 at_, .int .i64 ni], .int .i64 atx, .int .i64 n, .agg #[.bool true, .int .i64 k, .string s]] w fun e w' => e = .returned (.tuple #[.agg #[.bool true, .int .i64 k, .string s], .int .i64 6]) ∧ Mod [] w w' := by
  go_enter Try.func56, Try.ntmps56
  go_wp2_with (fail)
  all_goals
    refine bodyPost_ret (v := .tuple #[.agg #[.bool true, .int .i64 k, .string s], .int .i64 6]) (by simp [results, Try.results56, go_sem, *]) rfl ⟨rfl, ?_⟩
    repeat (with_reducible first | exact Mod.refl _ _ | refine Mod.drew ?_ | refine Mod.drewN ?_ _ | refine Mod.setCell ?_ _ (by first | (simp; done) | (simp; omega)) | refine Mod.alloc ?_ _ | refine Mod.trans ?_ (by assumption))

set_option maxRecDepth 100000 in
set_option maxHeartbeats 1600000 in
theorem r_beh_5g (kind area at_ ni k atx n : Int) (s : ByteArray) (w : World) (hs : s.size ≤ 16) (hk : (k != 1) = false) (hk2 : (kind != 1) = true) : Calls Try.prog 56 #[.agg #[.int .i64 5, .int .i64 kind, .int .i64 area, .int .i64 at_, .int .i64 ni], .int .i64 atx, .int .i64 n, .agg #[.bool true, .int .i64 k, .string s]] w fun e w' => e = .returned (.tuple #[.agg #[.bool true, .int .i64 k, .string s], .int .i64 6]) ∧ Mod [] w w' := by
  go_enter Try.func56, Try.ntmps56
  go_wp2_with (fail)
  all_goals
    refine bodyPost_ret (v := .tuple #[.agg #[.bool true, .int .i64 k, .string s], .int .i64 6]) (by simp [results, Try.results56, go_sem, *]) rfl ⟨rfl, ?_⟩
    repeat (with_reducible first | exact Mod.refl _ _ | refine Mod.drew ?_ | refine Mod.drewN ?_ _ | refine Mod.setCell ?_ _ (by first | (simp; done) | (simp; omega)) | refine Mod.alloc ?_ _ | refine Mod.trans ?_ (by assumption))

set_option maxRecDepth 100000 in
set_option maxHeartbeats 1600000 in
theorem r_beh_6t (kind area at_ ni k atx n : Int) (s : ByteArray) (w : World) (hs : s.size ≤ 16) (hk : (k != 1) = false) (hk2 : (kind != 1) = false) : Calls Try.prog 56 #[.agg #[.int .i64 6, .int .i64 kind, .int .i64 area, .int .i64 at_, .int .i64 ni], .int .i64 atx, .int .i64 n, .agg #[.bool true, .int .i64 k, .string s]] w fun e w' => e = .returned (.tuple #[.agg #[.bool true, .int .i64 k, .string s], .int .i64 0]) ∧ Mod [] w w' := by
  go_enter Try.func56, Try.ntmps56
  go_wp2_with (fail)
  all_goals
    refine bodyPost_ret (v := .tuple #[.agg #[.bool true, .int .i64 k, .string s], .int .i64 0]) (by simp [results, Try.results56, go_sem, *]) rfl ⟨rfl, ?_⟩
    repeat (with_reducible first | exact Mod.refl _ _ | refine Mod.drew ?_ | refine Mod.drewN ?_ _ | refine Mod.setCell ?_ _ (by first | (simp; done) | (simp; omega)) | refine Mod.alloc ?_ _ | refine Mod.trans ?_ (by assumption))

set_option maxRecDepth 100000 in
set_option maxHeartbeats 1600000 in
theorem r_beh_6f (kind area at_ ni k atx n : Int) (s : ByteArray) (w : World) (hs : s.size ≤ 16) (hk : (k != 1) = true) : Calls Try.prog 56 #[.agg #[.int .i64 6, .int .i64 kind, .int .i64 area, .int .i64 at_, .int .i64 ni], .int .i64 atx, .int .i64 n, .agg #[.bool true, .int .i64 k, .string s]] w fun e w' => e = .returned (.tuple #[.agg #[.bool true, .int .i64 k, .string s], .int .i64 6]) ∧ Mod [] w w' := by
  go_enter Try.func56, Try.ntmps56
  go_wp2_with (fail)
  all_goals
    refine bodyPost_ret (v := .tuple #[.agg #[.bool true, .int .i64 k, .string s], .int .i64 6]) (by simp [results, Try.results56, go_sem, *]) rfl ⟨rfl, ?_⟩
    repeat (with_reducible first | exact Mod.refl _ _ | refine Mod.drew ?_ | refine Mod.drewN ?_ _ | refine Mod.setCell ?_ _ (by first | (simp; done) | (simp; omega)) | refine Mod.alloc ?_ _ | refine Mod.trans ?_ (by assumption))

set_option maxRecDepth 100000 in
set_option maxHeartbeats 1600000 in
theorem r_beh_6g (kind area at_ ni k atx n : Int) (s : ByteArray) (w : World) (hs : s.size ≤ 16) (hk : (k != 1) = false) (hk2 : (kind != 1) = true) : Calls Try.prog 56 #[.agg #[.int .i64 6, .int .i64 kind, .int .i64 area, .int .i64 at_, .int .i64 ni], .int .i64 atx, .int .i64 n, .agg #[.bool true, .int .i64 k, .string s]] w fun e w' => e = .returned (.tuple #[.agg #[.bool true, .int .i64 k, .string s], .int .i64 6]) ∧ Mod [] w w' := by
  go_enter Try.func56, Try.ntmps56
  go_wp2_with (fail)
  all_goals
    refine bodyPost_ret (v := .tuple #[.agg #[.bool true, .int .i64 k, .string s], .int .i64 6]) (by simp [results, Try.results56, go_sem, *]) rfl ⟨rfl, ?_⟩
    repeat (with_reducible first | exact Mod.refl _ _ | refine Mod.drew ?_ | refine Mod.drewN ?_ _ | refine Mod.setCell ?_ _ (by first | (simp; done) | (simp; omega)) | refine Mod.alloc ?_ _ | refine Mod.trans ?_ (by assumption))

set_option maxRecDepth 100000 in
set_option maxHeartbeats 1600000 in
theorem r_beh_13t (kind area at_ ni k atx n : Int) (s : ByteArray) (w : World) (hs : s.size ≤ 16) (hl : logicP k = true) : Calls Try.prog 56 #[.agg #[.int .i64 13, .int .i64 kind, .int .i64 area, .int .i64 at_, .int .i64 ni], .int .i64 atx, .int .i64 n, .agg #[.bool true, .int .i64 k, .string s]] w fun e w' => e = .returned (.tuple #[.agg #[.bool true, .int .i64 k, .string s], .int .i64 0]) ∧ Mod [] w w' := by
  have HL := Lib.hid hl
  clear hl
  go_enter Try.func56, Try.ntmps56
  go_wp2_with ((go_at_call 70; refine (r_logic _ _).mono ?_; rintro e w1 ⟨rfl, hm⟩; rw [HL.out]; have hq0 := Blk.mod (b := w.heap.size) (T := 54) (cs := [.int .i64 13, .int .i64 kind, .int .i64 area, .int .i64 at_, .int .i64 ni]) (by repeat (with_reducible first | exact Blk.new' rfl | (refine Blk.new' ?_; simp; done) | apply Blk.set | apply Blk.alloc | assumption)) hm (by simp); have q0 := hq0.cell; have fq0 := hq0.frozen; have lq0 := hq0.lt; have hq1 := Blk.mod (b := w.heap.size + 1) (T := 90) (cs := [.bool true, .int .i64 k, .string s]) (by repeat (with_reducible first | exact Blk.new' rfl | (refine Blk.new' ?_; simp; done) | apply Blk.set | apply Blk.alloc | assumption)) hm (by simp); have q1 := hq1.cell; have fq1 := hq1.frozen; have lq1 := hq1.lt; have hq2 := Blk.mod (b := w.heap.size + 1 + 1) (T := 90) (cs := [.bool false, .int .i64 0, .string ⟨#[]⟩]) (by repeat (with_reducible first | exact Blk.new' rfl | (refine Blk.new' ?_; simp; done) | apply Blk.set | apply Blk.alloc | assumption)) hm (by simp); have q2 := hq2.cell; have fq2 := hq2.frozen; have lq2 := hq2.lt; have hq3 := Blk.mod (b := w.heap.size + 1 + 1 + 1) (T := 90) (cs := [.bool true, .int .i64 k, .string s]) (by repeat (with_reducible first | exact Blk.new' rfl | (refine Blk.new' ?_; simp; done) | apply Blk.set | apply Blk.alloc | assumption)) hm (by simp); have q3 := hq3.cell; have fq3 := hq3.frozen; have lq3 := hq3.lt))
  all_goals
    refine bodyPost_ret (v := .tuple #[.agg #[.bool true, .int .i64 k, .string s], .int .i64 0]) (by simp [results, Try.results56, go_sem, *]) rfl ⟨rfl, ?_⟩
    repeat (with_reducible first | exact Mod.refl _ _ | refine Mod.drew ?_ | refine Mod.drewN ?_ _ | refine Mod.setCell ?_ _ (by first | (simp; done) | (simp; omega)) | refine Mod.alloc ?_ _ | refine Mod.trans ?_ (by assumption))

set_option maxRecDepth 100000 in
set_option maxHeartbeats 1600000 in
theorem r_beh_13f (kind area at_ ni k atx n : Int) (s : ByteArray) (w : World) (hs : s.size ≤ 16) (hl : logicP k = false) : Calls Try.prog 56 #[.agg #[.int .i64 13, .int .i64 kind, .int .i64 area, .int .i64 at_, .int .i64 ni], .int .i64 atx, .int .i64 n, .agg #[.bool true, .int .i64 k, .string s]] w fun e w' => e = .returned (.tuple #[.agg #[.bool true, .int .i64 k, .string s], .int .i64 6]) ∧ Mod [] w w' := by
  have HL := Lib.hid hl
  clear hl
  go_enter Try.func56, Try.ntmps56
  go_wp2_with ((go_at_call 70; refine (r_logic _ _).mono ?_; rintro e w1 ⟨rfl, hm⟩; rw [HL.out]; have hq0 := Blk.mod (b := w.heap.size) (T := 54) (cs := [.int .i64 13, .int .i64 kind, .int .i64 area, .int .i64 at_, .int .i64 ni]) (by repeat (with_reducible first | exact Blk.new' rfl | (refine Blk.new' ?_; simp; done) | apply Blk.set | apply Blk.alloc | assumption)) hm (by simp); have q0 := hq0.cell; have fq0 := hq0.frozen; have lq0 := hq0.lt; have hq1 := Blk.mod (b := w.heap.size + 1) (T := 90) (cs := [.bool true, .int .i64 k, .string s]) (by repeat (with_reducible first | exact Blk.new' rfl | (refine Blk.new' ?_; simp; done) | apply Blk.set | apply Blk.alloc | assumption)) hm (by simp); have q1 := hq1.cell; have fq1 := hq1.frozen; have lq1 := hq1.lt; have hq2 := Blk.mod (b := w.heap.size + 1 + 1) (T := 90) (cs := [.bool false, .int .i64 0, .string ⟨#[]⟩]) (by repeat (with_reducible first | exact Blk.new' rfl | (refine Blk.new' ?_; simp; done) | apply Blk.set | apply Blk.alloc | assumption)) hm (by simp); have q2 := hq2.cell; have fq2 := hq2.frozen; have lq2 := hq2.lt; have hq3 := Blk.mod (b := w.heap.size + 1 + 1 + 1) (T := 90) (cs := [.bool true, .int .i64 k, .string s]) (by repeat (with_reducible first | exact Blk.new' rfl | (refine Blk.new' ?_; simp; done) | apply Blk.set | apply Blk.alloc | assumption)) hm (by simp); have q3 := hq3.cell; have fq3 := hq3.frozen; have lq3 := hq3.lt))
  all_goals
    refine bodyPost_ret (v := .tuple #[.agg #[.bool true, .int .i64 k, .string s], .int .i64 6]) (by simp [results, Try.results56, go_sem, *]) rfl ⟨rfl, ?_⟩
    repeat (with_reducible first | exact Mod.refl _ _ | refine Mod.drew ?_ | refine Mod.drewN ?_ _ | refine Mod.setCell ?_ _ (by first | (simp; done) | (simp; omega)) | refine Mod.alloc ?_ _ | refine Mod.trans ?_ (by assumption))

set_option maxRecDepth 100000 in
set_option maxHeartbeats 1600000 in
theorem r_beh_af (op kind area at_ ni k atx n : Int) (s : ByteArray) (w : World) (hs : s.size ≤ 16) (b1 : 7 ≤ op) (b2 : op ≤ 24) (b3 : op ≠ 13) (hk : (k != kind) = true) : Calls Try.prog 56 #[.agg #[.int .i64 op, .int .i64 kind, .int .i64 area, .int .i64 at_, .int .i64 ni], .int .i64 atx, .int .i64 n, .agg #[.bool true, .int .i64 k, .string s]] w fun e w' => e = .returned (.tuple #[.agg #[.bool true, .int .i64 k, .string s], .int .i64 6]) ∧ Mod [] w w' := by
  have g1 : (op == 1) = false := eqF (by omega)
  have g2 : (op == 2) = false := eqF (by omega)
  have g3 : (op == 3) = false := eqF (by omega)
  have g4 : (op == 4) = false := eqF (by omega)
  have g5 : (op == 5) = false := eqF (by omega)
  have g6 : (op == 6) = false := eqF (by omega)
  have g13 : (op == 13) = false := eqF (by omega)
  clear b3
  go_enter Try.func56, Try.ntmps56
  go_wp2_with (fail)
  all_goals
    refine bodyPost_ret (v := .tuple #[.agg #[.bool true, .int .i64 k, .string s], .int .i64 6]) (by simp [results, Try.results56, go_sem, *]) rfl ⟨rfl, ?_⟩
    repeat (with_reducible first | exact Mod.refl _ _ | refine Mod.drew ?_ | refine Mod.drewN ?_ _ | refine Mod.setCell ?_ _ (by first | (simp; done) | (simp; omega)) | refine Mod.alloc ?_ _ | refine Mod.trans ?_ (by assumption))

set_option maxRecDepth 100000 in
set_option maxHeartbeats 1600000 in
theorem r_beh_am (op kind area at_ ni k atx n : Int) (s : ByteArray) (w : World) (hs : s.size ≤ 16) (b1 : 7 ≤ op) (b2 : op ≤ 24) (b3 : op ≠ 13) (hk : (k != kind) = false) (hl : mayP op k = false) : Calls Try.prog 56 #[.agg #[.int .i64 op, .int .i64 kind, .int .i64 area, .int .i64 at_, .int .i64 ni], .int .i64 atx, .int .i64 n, .agg #[.bool true, .int .i64 k, .string s]] w fun e w' => e = .returned (.tuple #[.agg #[.bool true, .int .i64 k, .string s], .int .i64 6]) ∧ Mod [] w w' := by
  have g1 : (op == 1) = false := eqF (by omega)
  have g2 : (op == 2) = false := eqF (by omega)
  have g3 : (op == 3) = false := eqF (by omega)
  have g4 : (op == 4) = false := eqF (by omega)
  have g5 : (op == 5) = false := eqF (by omega)
  have g6 : (op == 6) = false := eqF (by omega)
  have g13 : (op == 13) = false := eqF (by omega)
  clear b3
  have HL := Lib.hid hl
  clear hl
  go_enter Try.func56, Try.ntmps56
  go_wp2_with ((go_at_call 71; refine (r_may _ _ _).mono ?_; rintro e w1 ⟨rfl, hm⟩; rw [HL.out]; have hq0 := Blk.mod (b := w.heap.size) (T := 54) (cs := [.int .i64 op, .int .i64 kind, .int .i64 area, .int .i64 at_, .int .i64 ni]) (by repeat (with_reducible first | exact Blk.new' rfl | (refine Blk.new' ?_; simp; done) | apply Blk.set | apply Blk.alloc | assumption)) hm (by simp); have q0 := hq0.cell; have fq0 := hq0.frozen; have lq0 := hq0.lt; have hq1 := Blk.mod (b := w.heap.size + 1) (T := 90) (cs := [.bool true, .int .i64 k, .string s]) (by repeat (with_reducible first | exact Blk.new' rfl | (refine Blk.new' ?_; simp; done) | apply Blk.set | apply Blk.alloc | assumption)) hm (by simp); have q1 := hq1.cell; have fq1 := hq1.frozen; have lq1 := hq1.lt; have hq2 := Blk.mod (b := w.heap.size + 1 + 1) (T := 90) (cs := [.bool false, .int .i64 0, .string ⟨#[]⟩]) (by repeat (with_reducible first | exact Blk.new' rfl | (refine Blk.new' ?_; simp; done) | apply Blk.set | apply Blk.alloc | assumption)) hm (by simp); have q2 := hq2.cell; have fq2 := hq2.frozen; have lq2 := hq2.lt; have hq3 := Blk.mod (b := w.heap.size + 1 + 1 + 1) (T := 90) (cs := [.bool true, .int .i64 k, .string s]) (by repeat (with_reducible first | exact Blk.new' rfl | (refine Blk.new' ?_; simp; done) | apply Blk.set | apply Blk.alloc | assumption)) hm (by simp); have q3 := hq3.cell; have fq3 := hq3.frozen; have lq3 := hq3.lt))
  all_goals
    refine bodyPost_ret (v := .tuple #[.agg #[.bool true, .int .i64 k, .string s], .int .i64 6]) (by simp [results, Try.results56, go_sem, *]) rfl ⟨rfl, ?_⟩
    repeat (with_reducible first | exact Mod.refl _ _ | refine Mod.drew ?_ | refine Mod.drewN ?_ _ | refine Mod.setCell ?_ _ (by first | (simp; done) | (simp; omega)) | refine Mod.alloc ?_ _ | refine Mod.trans ?_ (by assumption))

set_option maxRecDepth 100000 in
set_option maxHeartbeats 1600000 in
theorem r_beh_al (op kind area at_ ni k atx n : Int) (s : ByteArray) (w : World) (hs : s.size ≤ 16) (b1 : 7 ≤ op) (b2 : op ≤ 24) (b3 : op ≠ 13) (hk : (k != kind) = false) (hl : mayP op k = true) (b4 : op < 19) : Calls Try.prog 56 #[.agg #[.int .i64 op, .int .i64 kind, .int .i64 area, .int .i64 at_, .int .i64 ni], .int .i64 atx, .int .i64 n, .agg #[.bool true, .int .i64 k, .string s]] w fun e w' => e = .returned (.tuple #[.agg #[.bool true, .int .i64 k, .string s], .int .i64 0]) ∧ Mod [] w w' := by
  have g1 : (op == 1) = false := eqF (by omega)
  have g2 : (op == 2) = false := eqF (by omega)
  have g3 : (op == 3) = false := eqF (by omega)
  have g4 : (op == 4) = false := eqF (by omega)
  have g5 : (op == 5) = false := eqF (by omega)
  have g6 : (op == 6) = false := eqF (by omega)
  have g13 : (op == 13) = false := eqF (by omega)
  clear b3
  have HL := Lib.hid hl
  clear hl
  go_enter Try.func56, Try.ntmps56
  go_wp2_with ((go_at_call 71; refine (r_may _ _ _).mono ?_; rintro e w1 ⟨rfl, hm⟩; rw [HL.out]; have hq0 := Blk.mod (b := w.heap.size) (T := 54) (cs := [.int .i64 op, .int .i64 kind, .int .i64 area, .int .i64 at_, .int .i64 ni]) (by repeat (with_reducible first | exact Blk.new' rfl | (refine Blk.new' ?_; simp; done) | apply Blk.set | apply Blk.alloc | assumption)) hm (by simp); have q0 := hq0.cell; have fq0 := hq0.frozen; have lq0 := hq0.lt; have hq1 := Blk.mod (b := w.heap.size + 1) (T := 90) (cs := [.bool true, .int .i64 k, .string s]) (by repeat (with_reducible first | exact Blk.new' rfl | (refine Blk.new' ?_; simp; done) | apply Blk.set | apply Blk.alloc | assumption)) hm (by simp); have q1 := hq1.cell; have fq1 := hq1.frozen; have lq1 := hq1.lt; have hq2 := Blk.mod (b := w.heap.size + 1 + 1) (T := 90) (cs := [.bool false, .int .i64 0, .string ⟨#[]⟩]) (by repeat (with_reducible first | exact Blk.new' rfl | (refine Blk.new' ?_; simp; done) | apply Blk.set | apply Blk.alloc | assumption)) hm (by simp); have q2 := hq2.cell; have fq2 := hq2.frozen; have lq2 := hq2.lt; have hq3 := Blk.mod (b := w.heap.size + 1 + 1 + 1) (T := 90) (cs := [.bool true, .int .i64 k, .string s]) (by repeat (with_reducible first | exact Blk.new' rfl | (refine Blk.new' ?_; simp; done) | apply Blk.set | apply Blk.alloc | assumption)) hm (by simp); have q3 := hq3.cell; have fq3 := hq3.frozen; have lq3 := hq3.lt))
  all_goals
    refine bodyPost_ret (v := .tuple #[.agg #[.bool true, .int .i64 k, .string s], .int .i64 0]) (by simp [results, Try.results56, go_sem, *]) rfl ⟨rfl, ?_⟩
    repeat (with_reducible first | exact Mod.refl _ _ | refine Mod.drew ?_ | refine Mod.drewN ?_ _ | refine Mod.setCell ?_ _ (by first | (simp; done) | (simp; omega)) | refine Mod.alloc ?_ _ | refine Mod.trans ?_ (by assumption))

set_option maxRecDepth 100000 in
set_option maxHeartbeats 1600000 in
theorem r_beh_ah (op kind area at_ ni k atx n : Int) (s : ByteArray) (w : World) (hs : s.size ≤ 16) (b1 : 7 ≤ op) (b2 : op ≤ 24) (b3 : op ≠ 13) (hk : (k != kind) = false) (hl : mayP op k = true) (b4 : 19 ≤ op) : Calls Try.prog 56 #[.agg #[.int .i64 op, .int .i64 kind, .int .i64 area, .int .i64 at_, .int .i64 ni], .int .i64 atx, .int .i64 n, .agg #[.bool true, .int .i64 k, .string s]] w fun e w' => e = .returned (.tuple #[.agg #[.bool true, .int .i64 1, .string s], .int .i64 0]) ∧ Mod [] w w' := by
  have g1 : (op == 1) = false := eqF (by omega)
  have g2 : (op == 2) = false := eqF (by omega)
  have g3 : (op == 3) = false := eqF (by omega)
  have g4 : (op == 4) = false := eqF (by omega)
  have g5 : (op == 5) = false := eqF (by omega)
  have g6 : (op == 6) = false := eqF (by omega)
  have g13 : (op == 13) = false := eqF (by omega)
  clear b3
  have HL := Lib.hid hl
  clear hl
  go_enter Try.func56, Try.ntmps56
  go_wp2_with ((go_at_call 71; refine (r_may _ _ _).mono ?_; rintro e w1 ⟨rfl, hm⟩; rw [HL.out]; have hq0 := Blk.mod (b := w.heap.size) (T := 54) (cs := [.int .i64 op, .int .i64 kind, .int .i64 area, .int .i64 at_, .int .i64 ni]) (by repeat (with_reducible first | exact Blk.new' rfl | (refine Blk.new' ?_; simp; done) | apply Blk.set | apply Blk.alloc | assumption)) hm (by simp); have q0 := hq0.cell; have fq0 := hq0.frozen; have lq0 := hq0.lt; have hq1 := Blk.mod (b := w.heap.size + 1) (T := 90) (cs := [.bool true, .int .i64 k, .string s]) (by repeat (with_reducible first | exact Blk.new' rfl | (refine Blk.new' ?_; simp; done) | apply Blk.set | apply Blk.alloc | assumption)) hm (by simp); have q1 := hq1.cell; have fq1 := hq1.frozen; have lq1 := hq1.lt; have hq2 := Blk.mod (b := w.heap.size + 1 + 1) (T := 90) (cs := [.bool false, .int .i64 0, .string ⟨#[]⟩]) (by repeat (with_reducible first | exact Blk.new' rfl | (refine Blk.new' ?_; simp; done) | apply Blk.set | apply Blk.alloc | assumption)) hm (by simp); have q2 := hq2.cell; have fq2 := hq2.frozen; have lq2 := hq2.lt; have hq3 := Blk.mod (b := w.heap.size + 1 + 1 + 1) (T := 90) (cs := [.bool true, .int .i64 k, .string s]) (by repeat (with_reducible first | exact Blk.new' rfl | (refine Blk.new' ?_; simp; done) | apply Blk.set | apply Blk.alloc | assumption)) hm (by simp); have q3 := hq3.cell; have fq3 := hq3.frozen; have lq3 := hq3.lt))
  all_goals
    refine bodyPost_ret (v := .tuple #[.agg #[.bool true, .int .i64 1, .string s], .int .i64 0]) (by simp [results, Try.results56, go_sem, *]) rfl ⟨rfl, ?_⟩
    repeat (with_reducible first | exact Mod.refl _ _ | refine Mod.drew ?_ | refine Mod.drewN ?_ _ | refine Mod.setCell ?_ _ (by first | (simp; done) | (simp; omega)) | refine Mod.alloc ?_ _ | refine Mod.trans ?_ (by assumption))

end Go.Proofs.Ytedmikeamgebjaa
