/- il.Right: which instructions may be. -/
import Derived.Test.YtedmikeamgebjaaVIl
set_option linter.unusedVariables false
set_option linter.unusedSimpArgs false
namespace Go.Proofs.Ytedmikeamgebjaa
open Go.RowKit

theorem field_class (nm : ByteArray) (c : Int) (w : World) : (Instr.field 112 (.agg #[.string nm, .int .i64 c]) 1).run Try.prog w = .ok (.int .i64 c) w := by kernel_rfl

set_option maxRecDepth 100000 in
set_option maxHeartbeats 400000 in
theorem il_within (n : Int) (w : World) : Calls Try.prog 78 #[.int .i64 n] w fun e w' => e = .returned (.bool (withinP n)) ∧ Mod [] w w' := by
  by_cases h : classP n = 1
  · have e0 : withinP n = decide (7 ≤ n) := by simp [withinP, h]
    rw [e0]
    have h' : (classP n == 1) = true := by rw [h]; rfl
    clear h e0
    have hfc := field_class
    go_enter Try.func78, Try.ntmps78
    go_wp2_with (go_at_call 74; refine (il_of _ _).mono ?_; rintro e w1 ⟨⟨nm, rfl⟩, hm⟩)
    go_ret
    refine ⟨rfl, ?_⟩
    repeat (with_reducible first | exact Mod.refl _ _ | refine Mod.drew ?_ | refine Mod.drewN ?_ _ | refine Mod.setCell ?_ _ (by simp) | refine Mod.alloc ?_ _ | refine Mod.trans ?_ (by assumption))
  · have e0 : withinP n = false := by simp [withinP, h]
    rw [e0]
    have h' : (classP n == 1) = false := by rw [beq_eq_false_iff_ne]; exact h
    clear h e0
    have hfc := field_class
    go_enter Try.func78, Try.ntmps78
    go_wp2_with (go_at_call 74; refine (il_of _ _).mono ?_; rintro e w1 ⟨⟨nm, rfl⟩, hm⟩)
    go_ret
    refine ⟨rfl, ?_⟩
    repeat (with_reducible first | exact Mod.refl _ _ | refine Mod.drew ?_ | refine Mod.drewN ?_ _ | refine Mod.setCell ?_ _ (by simp) | refine Mod.alloc ?_ _ | refine Mod.trans ?_ (by assumption))

set_option maxRecDepth 100000 in
set_option maxHeartbeats 400000 in
theorem il_keeps (n : Int) (w : World) : Calls Try.prog 79 #[.int .i64 n] w fun e w' => e = .returned (.bool (decide (n = 3 ∨ n = 4))) ∧ w = w' := by
  by_cases h : n = 3
  · subst h
    go_enter Try.func79, Try.ntmps79
    go_wp2_with (fail)
    go_ret
    exact ⟨rfl, rfl⟩
  · have h' : (n == 3) = false := by rw [beq_eq_false_iff_ne]; exact h
    have e0 : decide (n = 3 ∨ n = 4) = (n == 4) := Bool.eq_iff_iff.2 (by simp [h])
    rw [e0]
    clear h e0
    go_enter Try.func79, Try.ntmps79
    go_wp2_with (fail)
    go_ret
    exact ⟨rfl, rfl⟩

set_option maxRecDepth 100000 in
set_option maxHeartbeats 800000 in
theorem il_stands (i : Ins) (least : Int) (w : World) : Calls Try.prog 76 #[i.v, .int .i64 least] w fun e w' => e = .returned (.bool (standsP i least)) ∧ Mod [] w w' := by
  obtain ⟨op, kind, area, at_, n⟩ := i
  have hs := sizeP_range kind
  obtain ⟨hs0, hs1⟩ := hs
  unfold Ins.v
  go_enter Try.func76, Try.ntmps76
  go_wp2_with (go_at_call 77; refine (iec_size _ _).mono ?_; rintro e w1 ⟨rfl, hm⟩; have hb := Blk.mod (Blk.new w 54 #[.int .i64 op, .int .i64 kind, .int .i64 area, .int .i64 at_, .int .i64 n]) hm (by simp); have hc := hb.cell; clear hb)
  all_goals
    go_ret
    refine ⟨?_, ?_⟩
    · show Ending.returned (.bool _) = _
      congr 2
      exact Bool.eq_iff_iff.2 (by simp [standsP]; try omega)
    · repeat (with_reducible first | exact Mod.refl _ _ | refine Mod.drew ?_ | refine Mod.drewN ?_ _ | refine Mod.setCell ?_ _ (by simp) | refine Mod.alloc ?_ _ | refine Mod.trans ?_ (by assumption))

theorem classP_range (n : Int) : 0 ≤ classP n ∧ classP n ≤ 8 := by
  unfold classP
  repeat' split
  all_goals omega

-- RIGHT BEGINS

-- RIGHT BEGINS

-- RIGHT BEGINS

set_option maxRecDepth 100000 in
set_option maxHeartbeats 1600000 in
theorem il_right_0 (op kind area at_ n : Int) (w : World) (hi : Ins.Ok ⟨op, kind, area, at_, n⟩) (h : classP op = 0) : Calls Try.prog 60 #[.agg #[.int .i64 op, .int .i64 kind, .int .i64 area, .int .i64 at_, .int .i64 n]] w fun e w' => e = .returned (.bool (rightP ⟨op, kind, area, at_, n⟩)) ∧ Mod [] w w' := by
  have hfc := field_class
  have HI := Lib.hid hi
  obtain ⟨hs0, hs1⟩ := sizeP_range kind
  have hop := fun w => il_of op w
  rw [h] at hop
  have HOP := Lib.hid hop
  have e0 : rightP ⟨op, kind, area, at_, n⟩ = false := by simp [rightP, h]
  rw [e0]
  clear hop hi h e0
  go_enter Try.func60, Try.ntmps60
  go_wp2_with (first | (go_at_call 74; refine (HOP.out _).mono ?_; rintro e w1 ⟨⟨nm, rfl⟩, hm1⟩; have hb := Blk.mod (b := w.heap.size) (T := 54) (cs := [.int .i64 op, .int .i64 kind, .int .i64 area, .int .i64 at_, .int .i64 n]) (by repeat (with_reducible first | assumption | exact Blk.new' rfl | apply Blk.drew | apply Blk.drewN | apply Blk.alloc)) hm1 (by simp); have hc := hb.cell))
  all_goals
    go_ret
    refine ⟨?_, ?_⟩
    · first | rfl | (show Ending.returned (.bool _) = _; congr 2; first | (simp [*]; done) | (simp; done) | (simp; omega) | exact Bool.eq_iff_iff.2 (by simp; try omega) | (simp [*]; done))
    · repeat (with_reducible first | exact Mod.refl _ _ | refine Mod.drew ?_ | refine Mod.drewN ?_ _ | refine Mod.setCell ?_ _ (by simp) | refine Mod.alloc ?_ _ | refine Mod.trans ?_ (by assumption))

set_option maxRecDepth 100000 in
set_option maxHeartbeats 1600000 in
theorem il_right_1 (op kind area at_ n : Int) (w : World) (hi : Ins.Ok ⟨op, kind, area, at_, n⟩) (h : classP op = 1) : Calls Try.prog 60 #[.agg #[.int .i64 op, .int .i64 kind, .int .i64 area, .int .i64 at_, .int .i64 n]] w fun e w' => e = .returned (.bool (rightP ⟨op, kind, area, at_, n⟩)) ∧ Mod [] w w' := by
  have hfc := field_class
  have HI := Lib.hid hi
  obtain ⟨hs0, hs1⟩ := sizeP_range kind
  have hop := fun w => il_of op w
  rw [h] at hop
  have HOP := Lib.hid hop
  have e0 : rightP ⟨op, kind, area, at_, n⟩ = (if area = 0 then decide (at_ = 0) && isP kind n else standsP ⟨op, kind, area, at_, n⟩ 1) := by simp [rightP, h]
  rw [e0]
  clear hop hi h e0
  go_enter Try.func60, Try.ntmps60
  go_wp2_with (first | (go_at_call 74; refine (HOP.out _).mono ?_; rintro e w1 ⟨⟨nm, rfl⟩, hm1⟩; have hb := Blk.mod (b := w.heap.size) (T := 54) (cs := [.int .i64 op, .int .i64 kind, .int .i64 area, .int .i64 at_, .int .i64 n]) (by repeat (with_reducible first | assumption | exact Blk.new' rfl | apply Blk.drew | apply Blk.drewN | apply Blk.alloc)) hm1 (by simp); have hc := hb.cell) | (go_at_call 75; refine (iec_is _ _ _ HI.out.n).mono ?_; rintro e w2 ⟨rfl, hm2⟩) | (go_at_call 76; refine (il_stands ⟨_, _, _, _, _⟩ _ _).mono ?_; rintro e w2 ⟨rfl, hm2⟩))
  all_goals
    go_ret
    refine ⟨?_, ?_⟩
    · first | rfl | (show Ending.returned (.bool _) = _; congr 2; first | (simp [*]; done) | (simp; done) | (simp; omega) | exact Bool.eq_iff_iff.2 (by simp; try omega) | (simp [*]; done))
    · repeat (with_reducible first | exact Mod.refl _ _ | refine Mod.drew ?_ | refine Mod.drewN ?_ _ | refine Mod.setCell ?_ _ (by simp) | refine Mod.alloc ?_ _ | refine Mod.trans ?_ (by assumption))

set_option maxRecDepth 100000 in
set_option maxHeartbeats 1600000 in
theorem il_right_2 (op kind area at_ n : Int) (w : World) (hi : Ins.Ok ⟨op, kind, area, at_, n⟩) (h : classP op = 2) : Calls Try.prog 60 #[.agg #[.int .i64 op, .int .i64 kind, .int .i64 area, .int .i64 at_, .int .i64 n]] w fun e w' => e = .returned (.bool (rightP ⟨op, kind, area, at_, n⟩)) ∧ Mod [] w w' := by
  have hfc := field_class
  have HI := Lib.hid hi
  obtain ⟨hs0, hs1⟩ := sizeP_range kind
  have hop := fun w => il_of op w
  rw [h] at hop
  have HOP := Lib.hid hop
  have e0 : rightP ⟨op, kind, area, at_, n⟩ = standsP ⟨op, kind, area, at_, n⟩ 2 := by simp [rightP, h]
  rw [e0]
  clear hop hi h e0
  go_enter Try.func60, Try.ntmps60
  go_wp2_with (first | (go_at_call 74; refine (HOP.out _).mono ?_; rintro e w1 ⟨⟨nm, rfl⟩, hm1⟩; have hb := Blk.mod (b := w.heap.size) (T := 54) (cs := [.int .i64 op, .int .i64 kind, .int .i64 area, .int .i64 at_, .int .i64 n]) (by repeat (with_reducible first | assumption | exact Blk.new' rfl | apply Blk.drew | apply Blk.drewN | apply Blk.alloc)) hm1 (by simp); have hc := hb.cell) | (go_at_call 76; refine (il_stands ⟨_, _, _, _, _⟩ _ _).mono ?_; rintro e w2 ⟨rfl, hm2⟩))
  all_goals
    go_ret
    refine ⟨?_, ?_⟩
    · first | rfl | (show Ending.returned (.bool _) = _; congr 2; first | (simp [*]; done) | (simp; done) | (simp; omega) | exact Bool.eq_iff_iff.2 (by simp; try omega) | (simp [*]; done))
    · repeat (with_reducible first | exact Mod.refl _ _ | refine Mod.drew ?_ | refine Mod.drewN ?_ _ | refine Mod.setCell ?_ _ (by simp) | refine Mod.alloc ?_ _ | refine Mod.trans ?_ (by assumption))

set_option maxRecDepth 100000 in
set_option maxHeartbeats 1600000 in
theorem il_right_3 (op kind area at_ n : Int) (w : World) (hi : Ins.Ok ⟨op, kind, area, at_, n⟩) (h : classP op = 3) : Calls Try.prog 60 #[.agg #[.int .i64 op, .int .i64 kind, .int .i64 area, .int .i64 at_, .int .i64 n]] w fun e w' => e = .returned (.bool (rightP ⟨op, kind, area, at_, n⟩)) ∧ Mod [] w w' := by
  have hfc := field_class
  have HI := Lib.hid hi
  obtain ⟨hs0, hs1⟩ := sizeP_range kind
  have hop := fun w => il_of op w
  rw [h] at hop
  have HOP := Lib.hid hop
  have e0 : rightP ⟨op, kind, area, at_, n⟩ = decide (area = 0 ∧ n = 0 ∧ kind = 0 ∧ 0 ≤ at_ ∧ at_ ≤ 200) := by simp [rightP, h]
  rw [e0]
  clear hop hi h e0
  go_enter Try.func60, Try.ntmps60
  go_wp2_with (first | (go_at_call 74; refine (HOP.out _).mono ?_; rintro e w1 ⟨⟨nm, rfl⟩, hm1⟩; have hb := Blk.mod (b := w.heap.size) (T := 54) (cs := [.int .i64 op, .int .i64 kind, .int .i64 area, .int .i64 at_, .int .i64 n]) (by repeat (with_reducible first | assumption | exact Blk.new' rfl | apply Blk.drew | apply Blk.drewN | apply Blk.alloc)) hm1 (by simp); have hc := hb.cell))
  all_goals
    go_ret
    refine ⟨?_, ?_⟩
    · first | rfl | (show Ending.returned (.bool _) = _; congr 2; first | (simp [*]; done) | (simp; done) | (simp; omega) | exact Bool.eq_iff_iff.2 (by simp; try omega) | (simp [*]; done))
    · repeat (with_reducible first | exact Mod.refl _ _ | refine Mod.drew ?_ | refine Mod.drewN ?_ _ | refine Mod.setCell ?_ _ (by simp) | refine Mod.alloc ?_ _ | refine Mod.trans ?_ (by assumption))

set_option maxRecDepth 100000 in
set_option maxHeartbeats 1600000 in
theorem il_right_4 (op kind area at_ n : Int) (w : World) (hi : Ins.Ok ⟨op, kind, area, at_, n⟩) (h : classP op = 4) : Calls Try.prog 60 #[.agg #[.int .i64 op, .int .i64 kind, .int .i64 area, .int .i64 at_, .int .i64 n]] w fun e w' => e = .returned (.bool (rightP ⟨op, kind, area, at_, n⟩)) ∧ Mod [] w w' := by
  have hfc := field_class
  have HI := Lib.hid hi
  obtain ⟨hs0, hs1⟩ := sizeP_range kind
  have hop := fun w => il_of op w
  rw [h] at hop
  have HOP := Lib.hid hop
  have e0 : rightP ⟨op, kind, area, at_, n⟩ = decide (area = 0 ∧ n = 0 ∧ kind = 0 ∧ at_ = 0) := by simp [rightP, h]
  rw [e0]
  clear hop hi h e0
  go_enter Try.func60, Try.ntmps60
  go_wp2_with (first | (go_at_call 74; refine (HOP.out _).mono ?_; rintro e w1 ⟨⟨nm, rfl⟩, hm1⟩; have hb := Blk.mod (b := w.heap.size) (T := 54) (cs := [.int .i64 op, .int .i64 kind, .int .i64 area, .int .i64 at_, .int .i64 n]) (by repeat (with_reducible first | assumption | exact Blk.new' rfl | apply Blk.drew | apply Blk.drewN | apply Blk.alloc)) hm1 (by simp); have hc := hb.cell))
  all_goals
    go_ret
    refine ⟨?_, ?_⟩
    · first | rfl | (show Ending.returned (.bool _) = _; congr 2; first | (simp [*]; done) | (simp; done) | (simp; omega) | exact Bool.eq_iff_iff.2 (by simp; try omega) | (simp [*]; done))
    · repeat (with_reducible first | exact Mod.refl _ _ | refine Mod.drew ?_ | refine Mod.drewN ?_ _ | refine Mod.setCell ?_ _ (by simp) | refine Mod.alloc ?_ _ | refine Mod.trans ?_ (by assumption))

set_option maxRecDepth 100000 in
set_option maxHeartbeats 1600000 in
theorem il_right_5 (op kind area at_ n : Int) (w : World) (hi : Ins.Ok ⟨op, kind, area, at_, n⟩) (h : classP op = 5) : Calls Try.prog 60 #[.agg #[.int .i64 op, .int .i64 kind, .int .i64 area, .int .i64 at_, .int .i64 n]] w fun e w' => e = .returned (.bool (rightP ⟨op, kind, area, at_, n⟩)) ∧ Mod [] w w' := by
  have hfc := field_class
  have HI := Lib.hid hi
  obtain ⟨hs0, hs1⟩ := sizeP_range kind
  have hop := fun w => il_of op w
  rw [h] at hop
  have HOP := Lib.hid hop
  have e0 : rightP ⟨op, kind, area, at_, n⟩ = decide (area = 0 ∧ n = 0 ∧ at_ = 0 ∧ 0 < sizeP kind) := by simp [rightP, h]
  rw [e0]
  clear hop hi h e0
  go_enter Try.func60, Try.ntmps60
  go_wp2_with (first | (go_at_call 74; refine (HOP.out _).mono ?_; rintro e w1 ⟨⟨nm, rfl⟩, hm1⟩; have hb := Blk.mod (b := w.heap.size) (T := 54) (cs := [.int .i64 op, .int .i64 kind, .int .i64 area, .int .i64 at_, .int .i64 n]) (by repeat (with_reducible first | assumption | exact Blk.new' rfl | apply Blk.drew | apply Blk.drewN | apply Blk.alloc)) hm1 (by simp); have hc := hb.cell) | (go_at_call 77; refine (iec_size _ _).mono ?_; rintro e w2 ⟨rfl, hm2⟩))
  all_goals
    go_ret
    refine ⟨?_, ?_⟩
    · first | rfl | (show Ending.returned (.bool _) = _; congr 2; first | (simp [*]; done) | (simp; done) | (simp; omega) | exact Bool.eq_iff_iff.2 (by simp; try omega) | (simp [*]; done))
    · repeat (with_reducible first | exact Mod.refl _ _ | refine Mod.drew ?_ | refine Mod.drewN ?_ _ | refine Mod.setCell ?_ _ (by simp) | refine Mod.alloc ?_ _ | refine Mod.trans ?_ (by assumption))

set_option maxRecDepth 100000 in
set_option maxHeartbeats 1600000 in
theorem il_right_6 (op kind area at_ n : Int) (w : World) (hi : Ins.Ok ⟨op, kind, area, at_, n⟩) (h : classP op = 6) : Calls Try.prog 60 #[.agg #[.int .i64 op, .int .i64 kind, .int .i64 area, .int .i64 at_, .int .i64 n]] w fun e w' => e = .returned (.bool (rightP ⟨op, kind, area, at_, n⟩)) ∧ Mod [] w w' := by
  have hfc := field_class
  have HI := Lib.hid hi
  obtain ⟨hs0, hs1⟩ := sizeP_range kind
  have hop := fun w => il_of op w
  rw [h] at hop
  have HOP := Lib.hid hop
  have e0 : rightP ⟨op, kind, area, at_, n⟩ = (decide (area = 0 ∧ n = 0 ∧ kind = 0) && withinP at_) := by simp [rightP, h]
  rw [e0]
  clear hop hi h e0
  go_enter Try.func60, Try.ntmps60
  go_wp2_with (first | (go_at_call 74; refine (HOP.out _).mono ?_; rintro e w1 ⟨⟨nm, rfl⟩, hm1⟩; have hb := Blk.mod (b := w.heap.size) (T := 54) (cs := [.int .i64 op, .int .i64 kind, .int .i64 area, .int .i64 at_, .int .i64 n]) (by repeat (with_reducible first | assumption | exact Blk.new' rfl | apply Blk.drew | apply Blk.drewN | apply Blk.alloc)) hm1 (by simp); have hc := hb.cell) | (go_at_call 78; refine (il_within _ _).mono ?_; rintro e w2 ⟨rfl, hm2⟩))
  all_goals
    go_ret
    refine ⟨?_, ?_⟩
    · first | rfl | (show Ending.returned (.bool _) = _; congr 2; first | (simp [*]; done) | (simp; done) | (simp; omega) | exact Bool.eq_iff_iff.2 (by simp; try omega) | (simp [*]; done))
    · repeat (with_reducible first | exact Mod.refl _ _ | refine Mod.drew ?_ | refine Mod.drewN ?_ _ | refine Mod.setCell ?_ _ (by simp) | refine Mod.alloc ?_ _ | refine Mod.trans ?_ (by assumption))

set_option maxRecDepth 100000 in
set_option maxHeartbeats 1600000 in
theorem il_right_7 (op kind area at_ n : Int) (w : World) (hi : Ins.Ok ⟨op, kind, area, at_, n⟩) (h : classP op = 7) : Calls Try.prog 60 #[.agg #[.int .i64 op, .int .i64 kind, .int .i64 area, .int .i64 at_, .int .i64 n]] w fun e w' => e = .returned (.bool (rightP ⟨op, kind, area, at_, n⟩)) ∧ Mod [] w w' := by
  have hfc := field_class
  have HI := Lib.hid hi
  obtain ⟨hs0, hs1⟩ := sizeP_range kind
  have hop := fun w => il_of op w
  rw [h] at hop
  have HOP := Lib.hid hop
  have e0 : rightP ⟨op, kind, area, at_, n⟩ = decide (kind = 0 ∧ (area = 3 ∨ area = 4) ∧ 0 ≤ at_ ∧ at_ ≤ 59 ∧ 1 ≤ n ∧ n ≤ 9999) := by simp [rightP, h]
  rw [e0]
  clear hop hi h e0
  go_enter Try.func60, Try.ntmps60
  go_wp2_with (first | (go_at_call 74; refine (HOP.out _).mono ?_; rintro e w1 ⟨⟨nm, rfl⟩, hm1⟩; have hb := Blk.mod (b := w.heap.size) (T := 54) (cs := [.int .i64 op, .int .i64 kind, .int .i64 area, .int .i64 at_, .int .i64 n]) (by repeat (with_reducible first | assumption | exact Blk.new' rfl | apply Blk.drew | apply Blk.drewN | apply Blk.alloc)) hm1 (by simp); have hc := hb.cell) | (go_at_call 79; refine (il_keeps _ _).mono ?_; rintro e w2 ⟨rfl, rfl⟩))
  all_goals
    go_ret
    refine ⟨?_, ?_⟩
    · first | rfl | (show Ending.returned (.bool _) = _; congr 2; first | (simp [*]; done) | (simp; done) | (simp; omega) | exact Bool.eq_iff_iff.2 (by simp; try omega) | (simp [*]; done))
    · repeat (with_reducible first | exact Mod.refl _ _ | refine Mod.drew ?_ | refine Mod.drewN ?_ _ | refine Mod.setCell ?_ _ (by simp) | refine Mod.alloc ?_ _ | refine Mod.trans ?_ (by assumption))

set_option maxRecDepth 100000 in
set_option maxHeartbeats 1600000 in
theorem il_right_8 (op kind area at_ n : Int) (w : World) (hi : Ins.Ok ⟨op, kind, area, at_, n⟩) (h : classP op = 8) : Calls Try.prog 60 #[.agg #[.int .i64 op, .int .i64 kind, .int .i64 area, .int .i64 at_, .int .i64 n]] w fun e w' => e = .returned (.bool (rightP ⟨op, kind, area, at_, n⟩)) ∧ Mod [] w w' := by
  have hfc := field_class
  have HI := Lib.hid hi
  obtain ⟨hs0, hs1⟩ := sizeP_range kind
  have hop := fun w => il_of op w
  rw [h] at hop
  have HOP := Lib.hid hop
  have e0 : rightP ⟨op, kind, area, at_, n⟩ = decide (kind = 0 ∧ (area = 3 ∨ area = 4) ∧ 0 ≤ at_ ∧ at_ < 64 ∧ n = 0) := by simp [rightP, h]
  rw [e0]
  clear hop hi h e0
  go_enter Try.func60, Try.ntmps60
  go_wp2_with (first | (go_at_call 74; refine (HOP.out _).mono ?_; rintro e w1 ⟨⟨nm, rfl⟩, hm1⟩; have hb := Blk.mod (b := w.heap.size) (T := 54) (cs := [.int .i64 op, .int .i64 kind, .int .i64 area, .int .i64 at_, .int .i64 n]) (by repeat (with_reducible first | assumption | exact Blk.new' rfl | apply Blk.drew | apply Blk.drewN | apply Blk.alloc)) hm1 (by simp); have hc := hb.cell) | (go_at_call 79; refine (il_keeps _ _).mono ?_; rintro e w2 ⟨rfl, rfl⟩))
  all_goals
    go_ret
    refine ⟨?_, ?_⟩
    · first | rfl | (show Ending.returned (.bool _) = _; congr 2; first | (simp [*]; done) | (simp; done) | (simp; omega) | exact Bool.eq_iff_iff.2 (by simp; try omega) | (simp [*]; done))
    · repeat (with_reducible first | exact Mod.refl _ _ | refine Mod.drew ?_ | refine Mod.drewN ?_ _ | refine Mod.setCell ?_ _ (by simp) | refine Mod.alloc ?_ _ | refine Mod.trans ?_ (by assumption))

theorem il_right (i : Ins) (w : World) (hi : i.Ok) : Calls Try.prog 60 #[i.v] w fun e w' => e = .returned (.bool (rightP i)) ∧ Mod [] w w' := by
  have hcr := classP_range i.op
  have hcc : classP i.op = 0 ∨ classP i.op = 1 ∨ classP i.op = 2 ∨ classP i.op = 3 ∨ classP i.op = 4 ∨ classP i.op = 5 ∨ classP i.op = 6 ∨ classP i.op = 7 ∨ classP i.op = 8 := by omega
  rcases hcc with h | h | h | h | h | h | h | h | h
  · exact il_right_0 _ _ _ _ _ w hi h
  · exact il_right_1 _ _ _ _ _ w hi h
  · exact il_right_2 _ _ _ _ _ w hi h
  · exact il_right_3 _ _ _ _ _ w hi h
  · exact il_right_4 _ _ _ _ _ w hi h
  · exact il_right_5 _ _ _ _ _ w hi h
  · exact il_right_6 _ _ _ _ _ w hi h
  · exact il_right_7 _ _ _ _ _ w hi h
  · exact il_right_8 _ _ _ _ _ w hi h
end Go.Proofs.Ytedmikeamgebjaa
