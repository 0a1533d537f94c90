/- The reference's Right: reading and writing instructions. -/
import Derived.Test.YtedmikeamgebjaaVRefC
set_option linter.unusedVariables false
set_option linter.unusedSimpArgs false
namespace Go.Proofs.Ytedmikeamgebjaa
open Go.RowKit

theorem class_reads {n : Int} (h : readsP n = true) : classP n = 1 := by
  simp [readsP] at h
  unfold classP
  rw [if_pos (by omega)]
theorem within_eq (n : Int) : withinP n = (readsP n && decide (2 < n)) := by
  unfold withinP classP readsP
  apply Bool.eq_iff_iff.2
  simp only [decide_eq_true_eq, Bool.and_eq_true]
  repeat' split
  all_goals omega

set_option maxRecDepth 100000 in
set_option maxHeartbeats 1600000 in
theorem r_right_6 (kind area at_ n : Int) (w : World) : Calls Try.prog 55 #[.agg #[.int .i64 32, .int .i64 kind, .int .i64 area, .int .i64 at_, .int .i64 n]] w fun e w' => e = .returned (.bool (rightP ⟨32, kind, area, at_, n⟩)) ∧ Mod [] w w' := by
  have heq := eqI
  have hgd := eqIG
  have e0 : rightP ⟨32, kind, area, at_, n⟩ = (decide (area = 0 ∧ n = 0 ∧ kind = 0) && (readsP at_ && decide (2 < at_))) := by
    rw [← within_eq]
    simp [rightP, classP]
  rw [e0]
  clear e0
  cases hr : readsP at_
  all_goals
    have HR := Lib.hid hr
    clear hr
    go_enter Try.func55, Try.ntmps55
    go_wp2_with (first | (go_at_call 65; refine (r_reads _ _).mono ?_; rintro e w1 ⟨rfl, rfl⟩; first | rw [show readsP 32 = false from rfl] | rw [HR.out]) | (go_at_call 67; refine (r_writes _ _).mono ?_; rintro e w1 ⟨rfl, rfl⟩; rw [show writesP 32 = false from rfl]))
    all_goals
      go_ret
      refine ⟨by (show Ending.returned (.bool _) = _; congr 2 <;> exact Bool.eq_iff_iff.2 (by simp; try omega)), ?_⟩
      repeat (with_reducible first | exact Mod.refl _ _ | refine Mod.drew ?_ | refine Mod.drewN ?_ _ | refine Mod.setCell ?_ _ (by first | (simp; done) | (simp; omega)) | refine Mod.alloc ?_ _ | refine Mod.trans ?_ (by assumption))

set_option maxRecDepth 100000 in
set_option maxHeartbeats 1600000 in
theorem r_right_2_3 (kind area at_ n : Int) (w : World) : Calls Try.prog 55 #[.agg #[.int .i64 3, .int .i64 kind, .int .i64 area, .int .i64 at_, .int .i64 n]] w fun e w' => e = .returned (.bool (rightP ⟨3, kind, area, at_, n⟩)) ∧ Mod [] w w' := by
  have heq := eqI
  have hgd := eqIG
  have e0 : rightP ⟨3, kind, area, at_, n⟩ = (decide (0 < sizeP kind ∧ 0 ≤ at_ ∧ at_ ≤ 64 - sizeP kind) && decide (2 ≤ area ∧ area ≤ 4 ∧ n = 0)) := by
    apply Bool.eq_iff_iff.2
    simp [rightP, classP, standsP]
    omega
  rw [e0]
  clear e0
  have hz := fun w => r_there 64 at_ kind w (by omega) (by omega)
  generalize decide (0 < sizeP kind ∧ 0 ≤ at_ ∧ at_ ≤ 64 - sizeP kind) = bt at *
  cases bt
  all_goals
    have HZ := Lib.hid hz
    clear hz
    go_enter Try.func55, Try.ntmps55
    go_wp2_with (first | (go_at_call 65; refine (r_reads _ _).mono ?_; rintro e w1 ⟨rfl, rfl⟩; rw [show readsP 3 = false from rfl]) | (go_at_call 67; refine (r_writes _ _).mono ?_; rintro e w1 ⟨rfl, rfl⟩; rw [show writesP 3 = true from rfl]) | (go_at_call 68; refine (HZ.out _).mono ?_; rintro e w2 ⟨rfl, hm2⟩; have hbi := Blk.mod (b := w.heap.size) (T := 54) (cs := [.int .i64 3, .int .i64 kind, .int .i64 area, .int .i64 at_, .int .i64 n]) (by repeat (with_reducible first | exact Blk.new' rfl | (refine Blk.new' ?_; simp; done) | apply Blk.set | apply Blk.alloc | assumption)) hm2 (by simp); have qi := hbi.cell; have hbw := Blk.mod (b := w.heap.size + 1) (T := 54) (cs := [.int .i64 3, .int .i64 kind, .int .i64 area, .int .i64 at_, .int .i64 0]) (by repeat (with_reducible first | exact Blk.new' rfl | (refine Blk.new' ?_; simp; done) | apply Blk.set | apply Blk.alloc | assumption)) hm2 (by simp); have qw := hbw.cell))
    all_goals
      go_ret
      refine ⟨by (show Ending.returned (.bool _) = _; congr 2 <;> exact Bool.eq_iff_iff.2 (by simp; try omega)), ?_⟩
      repeat (with_reducible first | exact Mod.refl _ _ | refine Mod.drew ?_ | refine Mod.drewN ?_ _ | refine Mod.setCell ?_ _ (by first | (simp; done) | (simp; omega)) | refine Mod.alloc ?_ _ | refine Mod.trans ?_ (by assumption))

set_option maxRecDepth 100000 in
set_option maxHeartbeats 1600000 in
theorem r_right_2_4 (kind area at_ n : Int) (w : World) : Calls Try.prog 55 #[.agg #[.int .i64 4, .int .i64 kind, .int .i64 area, .int .i64 at_, .int .i64 n]] w fun e w' => e = .returned (.bool (rightP ⟨4, kind, area, at_, n⟩)) ∧ Mod [] w w' := by
  have heq := eqI
  have hgd := eqIG
  have e0 : rightP ⟨4, kind, area, at_, n⟩ = (decide (0 < sizeP kind ∧ 0 ≤ at_ ∧ at_ ≤ 64 - sizeP kind) && decide (2 ≤ area ∧ area ≤ 4 ∧ n = 0)) := by
    apply Bool.eq_iff_iff.2
    simp [rightP, classP, standsP]
    omega
  rw [e0]
  clear e0
  have hz := fun w => r_there 64 at_ kind w (by omega) (by omega)
  generalize decide (0 < sizeP kind ∧ 0 ≤ at_ ∧ at_ ≤ 64 - sizeP kind) = bt at *
  cases bt
  all_goals
    have HZ := Lib.hid hz
    clear hz
    go_enter Try.func55, Try.ntmps55
    go_wp2_with (first | (go_at_call 65; refine (r_reads _ _).mono ?_; rintro e w1 ⟨rfl, rfl⟩; rw [show readsP 4 = false from rfl]) | (go_at_call 67; refine (r_writes _ _).mono ?_; rintro e w1 ⟨rfl, rfl⟩; rw [show writesP 4 = true from rfl]) | (go_at_call 68; refine (HZ.out _).mono ?_; rintro e w2 ⟨rfl, hm2⟩; have hbi := Blk.mod (b := w.heap.size) (T := 54) (cs := [.int .i64 4, .int .i64 kind, .int .i64 area, .int .i64 at_, .int .i64 n]) (by repeat (with_reducible first | exact Blk.new' rfl | (refine Blk.new' ?_; simp; done) | apply Blk.set | apply Blk.alloc | assumption)) hm2 (by simp); have qi := hbi.cell; have hbw := Blk.mod (b := w.heap.size + 1) (T := 54) (cs := [.int .i64 4, .int .i64 kind, .int .i64 area, .int .i64 at_, .int .i64 0]) (by repeat (with_reducible first | exact Blk.new' rfl | (refine Blk.new' ?_; simp; done) | apply Blk.set | apply Blk.alloc | assumption)) hm2 (by simp); have qw := hbw.cell))
    all_goals
      go_ret
      refine ⟨by (show Ending.returned (.bool _) = _; congr 2 <;> exact Bool.eq_iff_iff.2 (by simp; try omega)), ?_⟩
      repeat (with_reducible first | exact Mod.refl _ _ | refine Mod.drew ?_ | refine Mod.drewN ?_ _ | refine Mod.setCell ?_ _ (by first | (simp; done) | (simp; omega)) | refine Mod.alloc ?_ _ | refine Mod.trans ?_ (by assumption))

set_option maxRecDepth 100000 in
set_option maxHeartbeats 1600000 in
theorem r_right_2_5 (kind area at_ n : Int) (w : World) : Calls Try.prog 55 #[.agg #[.int .i64 5, .int .i64 kind, .int .i64 area, .int .i64 at_, .int .i64 n]] w fun e w' => e = .returned (.bool (rightP ⟨5, kind, area, at_, n⟩)) ∧ Mod [] w w' := by
  have heq := eqI
  have hgd := eqIG
  have e0 : rightP ⟨5, kind, area, at_, n⟩ = (decide (0 < sizeP kind ∧ 0 ≤ at_ ∧ at_ ≤ 64 - sizeP kind) && decide (2 ≤ area ∧ area ≤ 4 ∧ n = 0)) := by
    apply Bool.eq_iff_iff.2
    simp [rightP, classP, standsP]
    omega
  rw [e0]
  clear e0
  have hz := fun w => r_there 64 at_ kind w (by omega) (by omega)
  generalize decide (0 < sizeP kind ∧ 0 ≤ at_ ∧ at_ ≤ 64 - sizeP kind) = bt at *
  cases bt
  all_goals
    have HZ := Lib.hid hz
    clear hz
    go_enter Try.func55, Try.ntmps55
    go_wp2_with (first | (go_at_call 65; refine (r_reads _ _).mono ?_; rintro e w1 ⟨rfl, rfl⟩; rw [show readsP 5 = false from rfl]) | (go_at_call 67; refine (r_writes _ _).mono ?_; rintro e w1 ⟨rfl, rfl⟩; rw [show writesP 5 = true from rfl]) | (go_at_call 68; refine (HZ.out _).mono ?_; rintro e w2 ⟨rfl, hm2⟩; have hbi := Blk.mod (b := w.heap.size) (T := 54) (cs := [.int .i64 5, .int .i64 kind, .int .i64 area, .int .i64 at_, .int .i64 n]) (by repeat (with_reducible first | exact Blk.new' rfl | (refine Blk.new' ?_; simp; done) | apply Blk.set | apply Blk.alloc | assumption)) hm2 (by simp); have qi := hbi.cell; have hbw := Blk.mod (b := w.heap.size + 1) (T := 54) (cs := [.int .i64 5, .int .i64 kind, .int .i64 area, .int .i64 at_, .int .i64 0]) (by repeat (with_reducible first | exact Blk.new' rfl | (refine Blk.new' ?_; simp; done) | apply Blk.set | apply Blk.alloc | assumption)) hm2 (by simp); have qw := hbw.cell))
    all_goals
      go_ret
      refine ⟨by (show Ending.returned (.bool _) = _; congr 2 <;> exact Bool.eq_iff_iff.2 (by simp; try omega)), ?_⟩
      repeat (with_reducible first | exact Mod.refl _ _ | refine Mod.drew ?_ | refine Mod.drewN ?_ _ | refine Mod.setCell ?_ _ (by first | (simp; done) | (simp; omega)) | refine Mod.alloc ?_ _ | refine Mod.trans ?_ (by assumption))

set_option maxRecDepth 100000 in
set_option maxHeartbeats 1600000 in
theorem r_right_2_6 (kind area at_ n : Int) (w : World) : Calls Try.prog 55 #[.agg #[.int .i64 6, .int .i64 kind, .int .i64 area, .int .i64 at_, .int .i64 n]] w fun e w' => e = .returned (.bool (rightP ⟨6, kind, area, at_, n⟩)) ∧ Mod [] w w' := by
  have heq := eqI
  have hgd := eqIG
  have e0 : rightP ⟨6, kind, area, at_, n⟩ = (decide (0 < sizeP kind ∧ 0 ≤ at_ ∧ at_ ≤ 64 - sizeP kind) && decide (2 ≤ area ∧ area ≤ 4 ∧ n = 0)) := by
    apply Bool.eq_iff_iff.2
    simp [rightP, classP, standsP]
    omega
  rw [e0]
  clear e0
  have hz := fun w => r_there 64 at_ kind w (by omega) (by omega)
  generalize decide (0 < sizeP kind ∧ 0 ≤ at_ ∧ at_ ≤ 64 - sizeP kind) = bt at *
  cases bt
  all_goals
    have HZ := Lib.hid hz
    clear hz
    go_enter Try.func55, Try.ntmps55
    go_wp2_with (first | (go_at_call 65; refine (r_reads _ _).mono ?_; rintro e w1 ⟨rfl, rfl⟩; rw [show readsP 6 = false from rfl]) | (go_at_call 67; refine (r_writes _ _).mono ?_; rintro e w1 ⟨rfl, rfl⟩; rw [show writesP 6 = true from rfl]) | (go_at_call 68; refine (HZ.out _).mono ?_; rintro e w2 ⟨rfl, hm2⟩; have hbi := Blk.mod (b := w.heap.size) (T := 54) (cs := [.int .i64 6, .int .i64 kind, .int .i64 area, .int .i64 at_, .int .i64 n]) (by repeat (with_reducible first | exact Blk.new' rfl | (refine Blk.new' ?_; simp; done) | apply Blk.set | apply Blk.alloc | assumption)) hm2 (by simp); have qi := hbi.cell; have hbw := Blk.mod (b := w.heap.size + 1) (T := 54) (cs := [.int .i64 6, .int .i64 kind, .int .i64 area, .int .i64 at_, .int .i64 0]) (by repeat (with_reducible first | exact Blk.new' rfl | (refine Blk.new' ?_; simp; done) | apply Blk.set | apply Blk.alloc | assumption)) hm2 (by simp); have qw := hbw.cell))
    all_goals
      go_ret
      refine ⟨by (show Ending.returned (.bool _) = _; congr 2 <;> exact Bool.eq_iff_iff.2 (by simp; try omega)), ?_⟩
      repeat (with_reducible first | exact Mod.refl _ _ | refine Mod.drew ?_ | refine Mod.drewN ?_ _ | refine Mod.setCell ?_ _ (by first | (simp; done) | (simp; omega)) | refine Mod.alloc ?_ _ | refine Mod.trans ?_ (by assumption))

end Go.Proofs.Ytedmikeamgebjaa
