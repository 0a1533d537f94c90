/- The reference's Right: all instructions. -/
import Derived.Test.YtedmikeamgebjaaVRefD
set_option linter.unusedVariables false
set_option linter.unusedSimpArgs false
namespace Go.Proofs.Ytedmikeamgebjaa
open Go.RowKit

set_option maxRecDepth 100000 in
set_option maxHeartbeats 1600000 in
theorem r_right_1a (op kind at_ n : Int) (w : World) (h : readsP op = true) (hn : In64 n) : Calls Try.prog 55 #[.agg #[.int .i64 op, .int .i64 kind, .int .i64 0, .int .i64 at_, .int .i64 n]] w fun e w' => e = .returned (.bool (rightP ⟨op, kind, 0, at_, n⟩)) ∧ Mod [] w w' := by
  have heq := eqI
  have hgd := eqIG
  have e0 : rightP ⟨op, kind, 0, at_, n⟩ = (isP kind n && decide (at_ = 0)) := by
    simp [rightP, class_reads h, Bool.and_comm]
  rw [e0]
  clear e0
  have hz := fun w => r_is kind n w hn
  generalize isP kind n = bt at *
  cases bt
  all_goals
    have HR := Lib.hid h
    have HZ := Lib.hid hz
    clear hz h hn
    go_enter Try.func55, Try.ntmps55
    go_wp2_with (first | (go_at_call 65; refine (r_reads _ _).mono ?_; rintro e w1 ⟨rfl, rfl⟩; rw [HR.out]) | (go_at_call 66; refine (HZ.out _).mono ?_; rintro e w2 ⟨rfl, hm2⟩; have hbi := Blk.mod (b := w.heap.size) (T := 54) (cs := [.int .i64 op, .int .i64 kind, .int .i64 0, .int .i64 at_, .int .i64 n]) (by repeat (with_reducible first | exact Blk.new' rfl | (refine Blk.new' ?_; simp; done) | apply Blk.set | apply Blk.alloc | assumption)) hm2 (by simp); have qi := hbi.cell; have hbw := Blk.mod (b := w.heap.size + 1) (T := 54) (cs := [.int .i64 op, .int .i64 kind, .int .i64 0, .int .i64 0, .int .i64 n]) (by repeat (with_reducible first | exact Blk.new' rfl | (refine Blk.new' ?_; simp; done) | apply Blk.set | apply Blk.alloc | assumption)) hm2 (by simp); have qw := hbw.cell))
    all_goals
      go_ret
      refine ⟨by (show Ending.returned (.bool _) = _; congr 2 <;> exact Bool.eq_iff_iff.2 (by simp; try omega)), ?_⟩
      repeat (with_reducible first | exact Mod.refl _ _ | refine Mod.drew ?_ | refine Mod.drewN ?_ _ | refine Mod.setCell ?_ _ (by first | (simp; done) | (simp; omega)) | refine Mod.alloc ?_ _ | refine Mod.trans ?_ (by assumption))

set_option maxRecDepth 100000 in
set_option maxHeartbeats 1600000 in
theorem r_right_1b (op kind area at_ n : Int) (w : World) (h : readsP op = true) (ha : area ≠ 0) : Calls Try.prog 55 #[.agg #[.int .i64 op, .int .i64 kind, .int .i64 area, .int .i64 at_, .int .i64 n]] w fun e w' => e = .returned (.bool (rightP ⟨op, kind, area, at_, n⟩)) ∧ Mod [] w w' := by
  have heq := eqI
  have hgd := eqIG
  have e0 : rightP ⟨op, kind, area, at_, n⟩ = (decide (0 < sizeP kind ∧ 0 ≤ at_ ∧ at_ ≤ 64 - sizeP kind) && decide (1 ≤ area ∧ area ≤ 4 ∧ n = 0)) := by
    apply Bool.eq_iff_iff.2
    simp [rightP, class_reads h, standsP, ha]
    omega
  rw [e0]
  clear e0
  have hz := fun w => r_there 64 at_ kind w (by omega) (by omega)
  generalize decide (0 < sizeP kind ∧ 0 ≤ at_ ∧ at_ ≤ 64 - sizeP kind) = bt at *
  have hw : writesP op = false := by
    simp [readsP] at h
    simp [writesP]
    omega
  have ha' : (area == 0) = false := by rw [beq_eq_false_iff_ne]; exact ha
  cases bt
  all_goals
    have HR := Lib.hid h
    have HW := Lib.hid hw
    have HZ := Lib.hid hz
    clear hz h hw ha
    go_enter Try.func55, Try.ntmps55
    go_wp2_with (first | (go_at_call 65; refine (r_reads _ _).mono ?_; rintro e w1 ⟨rfl, rfl⟩; rw [HR.out]) | (go_at_call 67; refine (r_writes _ _).mono ?_; rintro e w1 ⟨rfl, rfl⟩; rw [HW.out]) | (go_at_call 68; refine (HZ.out _).mono ?_; rintro e w2 ⟨rfl, hm2⟩; have hbi := Blk.mod (b := w.heap.size) (T := 54) (cs := [.int .i64 op, .int .i64 kind, .int .i64 area, .int .i64 at_, .int .i64 n]) (by repeat (with_reducible first | exact Blk.new' rfl | (refine Blk.new' ?_; simp; done) | apply Blk.set | apply Blk.alloc | assumption)) hm2 (by simp); have qi := hbi.cell; have hbw := Blk.mod (b := w.heap.size + 1) (T := 54) (cs := [.int .i64 op, .int .i64 kind, .int .i64 area, .int .i64 at_, .int .i64 0]) (by repeat (with_reducible first | exact Blk.new' rfl | (refine Blk.new' ?_; simp; done) | apply Blk.set | apply Blk.alloc | assumption)) hm2 (by simp); have qw := hbw.cell))
    all_goals
      go_ret
      refine ⟨by (show Ending.returned (.bool _) = _; congr 2 <;> exact Bool.eq_iff_iff.2 (by simp; try omega)), ?_⟩
      repeat (with_reducible first | exact Mod.refl _ _ | refine Mod.drew ?_ | refine Mod.drewN ?_ _ | refine Mod.setCell ?_ _ (by first | (simp; done) | (simp; omega)) | refine Mod.alloc ?_ _ | refine Mod.trans ?_ (by assumption))

set_option maxRecDepth 100000 in
set_option maxHeartbeats 1600000 in
theorem r_right_0 (op kind area at_ n : Int) (w : World) (h : op ≤ 0 ∨ 37 ≤ op) : Calls Try.prog 55 #[.agg #[.int .i64 op, .int .i64 kind, .int .i64 area, .int .i64 at_, .int .i64 n]] w fun e w' => e = .returned (.bool (rightP ⟨op, kind, area, at_, n⟩)) ∧ Mod [] w w' := by
  have heq := eqI
  have hgd := eqIG
  have e0 : rightP ⟨op, kind, area, at_, n⟩ = false := by
    have : classP op = 0 := by
      by_cases h0 : op = 0
      · subst h0; rfl
      · exact classP_out (by omega)
    simp [rightP, this]
  rw [e0]
  clear e0
  have hr : readsP op = false := by simp [readsP]; omega
  have hw : writesP op = false := by simp [writesP]; omega
  have f13 : (op == 13) = false := by rw [beq_eq_false_iff_ne]; omega
  have f33 : (op == 33) = false := by rw [beq_eq_false_iff_ne]; omega
  have f31 : (op == 31) = false := by rw [beq_eq_false_iff_ne]; omega
  have f32 : (op == 32) = false := by rw [beq_eq_false_iff_ne]; omega
  have f34 : (op == 34) = false := by rw [beq_eq_false_iff_ne]; omega
  have f35 : (op == 35) = false := by rw [beq_eq_false_iff_ne]; omega
  have f36 : (op == 36) = false := by rw [beq_eq_false_iff_ne]; omega
  rcases h with h | h
  all_goals
    have HR := Lib.hid hr
    have HW := Lib.hid hw
    clear hr hw
    go_enter Try.func55, Try.ntmps55
    go_wp2_with (first | (go_at_call 65; refine (r_reads _ _).mono ?_; rintro e w1 ⟨rfl, rfl⟩; rw [HR.out]) | (go_at_call 67; refine (r_writes _ _).mono ?_; rintro e w1 ⟨rfl, rfl⟩; rw [HW.out]))
    all_goals
      go_ret
      refine ⟨rfl, ?_⟩
      repeat (with_reducible first | exact Mod.refl _ _ | refine Mod.drew ?_ | refine Mod.drewN ?_ _ | refine Mod.setCell ?_ _ (by first | (simp; done) | (simp; omega)) | refine Mod.alloc ?_ _ | refine Mod.trans ?_ (by assumption))

theorem r_right (i : Ins) (w : World) (hi : i.Ok) : Calls Try.prog 55 #[i.v] w fun e w' => e = .returned (.bool (rightP i)) ∧ Mod [] w w' := by
  have hn := hi.n
  obtain ⟨op, kind, area, at_, n⟩ := i
  unfold Ins.v
  by_cases h0 : op ≤ 0 ∨ 37 ≤ op
  · exact r_right_0 op kind area at_ n w h0
  by_cases h1 : readsP op = true
  · by_cases ha : area = 0
    · subst ha
      exact r_right_1a op kind at_ n w h1 hn
    · exact r_right_1b op kind area at_ n w h1 ha
  have h2 : op = 3 ∨ op = 4 ∨ op = 5 ∨ op = 6 ∨ op = 32 ∨ op = 36 ∨ op = 31 ∨ (op = 34 ∨ op = 35) ∨ (op = 25 ∨ op = 26 ∨ op = 27) ∨ (op = 13 ∨ op = 28 ∨ op = 29 ∨ op = 30 ∨ op = 33) := by
    simp [readsP] at h1
    omega
  rcases h2 with rfl | rfl | rfl | rfl | rfl | h | h | h | h | h
  · exact r_right_2_3 kind area at_ n w
  · exact r_right_2_4 kind area at_ n w
  · exact r_right_2_5 kind area at_ n w
  · exact r_right_2_6 kind area at_ n w
  · exact r_right_6 kind area at_ n w
  · exact r_right_8 op kind area at_ n w h
  · exact r_right_5 op kind area at_ n w h
  · exact r_right_7 op kind area at_ n w h
  · exact r_right_3 op kind area at_ n w h
  · exact r_right_4 op kind area at_ n w h
end Go.Proofs.Ytedmikeamgebjaa
