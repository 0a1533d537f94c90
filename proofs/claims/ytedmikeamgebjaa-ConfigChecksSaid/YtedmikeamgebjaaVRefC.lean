/- The reference's Right. -/
import Derived.Test.YtedmikeamgebjaaVRefB
set_option linter.unusedVariables false
set_option linter.unusedSimpArgs false
namespace Go.Proofs.Ytedmikeamgebjaa
open Go.RowKit

theorem eqI (a b c d e a' b' c' d' e' : Int) (w : World) : (Op.equalIn 10000 54 (.agg #[.int .i64 a, .int .i64 b, .int .i64 c, .int .i64 d, .int .i64 e]) (.agg #[.int .i64 a', .int .i64 b', .int .i64 c', .int .i64 d', .int .i64 e'])).run Try.prog w = .ok (a == a' && b == b' && c == c' && d == d' && e == e') w := by
  have hS : Try.prog.underlying 54 = some (.struct (Try.prog.fieldsOf 54)) := by kernel_rfl
  have hp : Try.prog.stoodInHeld 54 = false := by kernel_rfl
  have u3 := Try.underlying3
  have a3 := Try.isAgg3
  have z3 := Try.sizeOf3
  have u2 := Try.underlying2
  have a2 := Try.isAgg2
  have z2 := Try.sizeOf2
  rw [show (10000 : Nat) = 9999 + 1 from rfl, run_equalIn_agg w 9999 54 _ _ hS hp]
  simp only [Program.fieldsOf, Try.underlying54]
  go_simp
  by_cases h1 : a = a' <;> by_cases h2 : b = b' <;> by_cases h3 : c = c' <;> by_cases h4 : d = d' <;> by_cases h5 : e = e' <;> simp [h1, h2, h3, h4, h5]
theorem eqIG : Try.prog.eqGuardType Try.prog.depth 54 = false := by kernel_rfl

set_option maxRecDepth 100000 in
set_option maxHeartbeats 1600000 in
theorem r_right_4 (op kind area at_ n : Int) (w : World) (h : op = 13 ∨ op = 28 ∨ op = 29 ∨ op = 30 ∨ op = 33) : Calls Try.prog 55 #[.agg #[.int .i64 op, .int .i64 kind, .int .i64 area, .int .i64 at_, .int .i64 n]] w fun e w' => e = .returned (.bool (rightP ⟨op, kind, area, at_, n⟩)) ∧ Mod [] w w' := by
  have heq := eqI
  have hgd := eqIG
  rcases h with rfl | rfl | rfl | rfl | rfl
  all_goals
    go_enter Try.func55, Try.ntmps55
    go_wp2_with (first | (go_at_call 65; refine (r_reads _ _).mono ?_; rintro e w1 ⟨rfl, rfl⟩; simp only [show readsP 13 = false from rfl, show readsP 28 = false from rfl, show readsP 29 = false from rfl, show readsP 30 = false from rfl, show readsP 33 = false from rfl]) | (go_at_call 67; refine (r_writes _ _).mono ?_; rintro e w1 ⟨rfl, rfl⟩; simp only [show writesP 13 = false from rfl, show writesP 28 = false from rfl, show writesP 29 = false from rfl, show writesP 30 = false from rfl, show writesP 33 = false from rfl]))
    go_ret
    refine ⟨by (show Ending.returned (.bool _) = _; congr 2; exact Bool.eq_iff_iff.2 (by simp [rightP, classP]; try omega)), ?_⟩
    repeat (with_reducible first | exact Mod.refl _ _ | refine Mod.drew ?_ | refine Mod.drewN ?_ _ | refine Mod.setCell ?_ _ (by first | (simp; done) | (simp; omega)) | refine Mod.alloc ?_ _ | refine Mod.trans ?_ (by assumption))

set_option maxRecDepth 100000 in
set_option maxHeartbeats 1600000 in
theorem r_right_3 (op kind area at_ n : Int) (w : World) (h : op = 25 ∨ op = 26 ∨ op = 27) : Calls Try.prog 55 #[.agg #[.int .i64 op, .int .i64 kind, .int .i64 area, .int .i64 at_, .int .i64 n]] w fun e w' => e = .returned (.bool (rightP ⟨op, kind, area, at_, n⟩)) ∧ Mod [] w w' := by
  have heq := eqI
  have hgd := eqIG
  rcases h with rfl | rfl | rfl
  all_goals
    go_enter Try.func55, Try.ntmps55
    go_wp2_with (first | (go_at_call 65; refine (r_reads _ _).mono ?_; rintro e w1 ⟨rfl, rfl⟩; simp only [show readsP 25 = false from rfl, show readsP 26 = false from rfl, show readsP 27 = false from rfl]) | (go_at_call 67; refine (r_writes _ _).mono ?_; rintro e w1 ⟨rfl, rfl⟩; simp only [show writesP 25 = false from rfl, show writesP 26 = false from rfl, show writesP 27 = false from rfl]))
    all_goals
      go_ret
      refine ⟨by (show Ending.returned (.bool _) = _; congr 2; exact Bool.eq_iff_iff.2 (by simp [rightP, classP]; try omega)), ?_⟩
      repeat (with_reducible first | exact Mod.refl _ _ | refine Mod.drew ?_ | refine Mod.drewN ?_ _ | refine Mod.setCell ?_ _ (by first | (simp; done) | (simp; omega)) | refine Mod.alloc ?_ _ | refine Mod.trans ?_ (by assumption))

set_option maxRecDepth 100000 in
set_option maxHeartbeats 1600000 in
theorem r_right_7 (op kind area at_ n : Int) (w : World) (h : op = 34 ∨ op = 35) : Calls Try.prog 55 #[.agg #[.int .i64 op, .int .i64 kind, .int .i64 area, .int .i64 at_, .int .i64 n]] w fun e w' => e = .returned (.bool (rightP ⟨op, kind, area, at_, n⟩)) ∧ Mod [] w w' := by
  have heq := eqI
  have hgd := eqIG
  rcases h with rfl | rfl
  all_goals
    go_enter Try.func55, Try.ntmps55
    go_wp2_with (first | (go_at_call 65; refine (r_reads _ _).mono ?_; rintro e w1 ⟨rfl, rfl⟩; simp only [show readsP 34 = false from rfl, show readsP 35 = false from rfl]) | (go_at_call 67; refine (r_writes _ _).mono ?_; rintro e w1 ⟨rfl, rfl⟩; simp only [show writesP 34 = false from rfl, show writesP 35 = false from rfl]))
    all_goals
      go_ret
      refine ⟨by (show Ending.returned (.bool _) = _; congr 2; exact Bool.eq_iff_iff.2 (by simp [rightP, classP]; try omega)), ?_⟩
      repeat (with_reducible first | exact Mod.refl _ _ | refine Mod.drew ?_ | refine Mod.drewN ?_ _ | refine Mod.setCell ?_ _ (by first | (simp; done) | (simp; omega)) | refine Mod.alloc ?_ _ | refine Mod.trans ?_ (by assumption))

set_option maxRecDepth 100000 in
set_option maxHeartbeats 1600000 in
theorem r_right_8 (op kind area at_ n : Int) (w : World) (h : op = 36) : Calls Try.prog 55 #[.agg #[.int .i64 op, .int .i64 kind, .int .i64 area, .int .i64 at_, .int .i64 n]] w fun e w' => e = .returned (.bool (rightP ⟨op, kind, area, at_, n⟩)) ∧ Mod [] w w' := by
  have heq := eqI
  have hgd := eqIG
  rcases h with rfl
  all_goals
    go_enter Try.func55, Try.ntmps55
    go_wp2_with (first | (go_at_call 65; refine (r_reads _ _).mono ?_; rintro e w1 ⟨rfl, rfl⟩; simp only [show readsP 36 = false from rfl]) | (go_at_call 67; refine (r_writes _ _).mono ?_; rintro e w1 ⟨rfl, rfl⟩; simp only [show writesP 36 = false from rfl]))
    all_goals
      go_ret
      refine ⟨by (show Ending.returned (.bool _) = _; congr 2; exact Bool.eq_iff_iff.2 (by simp [rightP, classP]; try omega)), ?_⟩
      repeat (with_reducible first | exact Mod.refl _ _ | refine Mod.drew ?_ | refine Mod.drewN ?_ _ | refine Mod.setCell ?_ _ (by first | (simp; done) | (simp; omega)) | refine Mod.alloc ?_ _ | refine Mod.trans ?_ (by assumption))

set_option maxRecDepth 100000 in
set_option maxHeartbeats 1600000 in
theorem r_right_5 (op kind area at_ n : Int) (w : World) (h : op = 31) : Calls Try.prog 55 #[.agg #[.int .i64 op, .int .i64 kind, .int .i64 area, .int .i64 at_, .int .i64 n]] w fun e w' => e = .returned (.bool (rightP ⟨op, kind, area, at_, n⟩)) ∧ Mod [] w w' := by
  have heq := eqI
  have hgd := eqIG
  have HZ := Lib.hid (fun w => r_size kind w)
  rcases h with rfl
  all_goals
    go_enter Try.func55, Try.ntmps55
    go_wp2_with (first | (go_at_call 65; refine (r_reads _ _).mono ?_; rintro e w1 ⟨rfl, rfl⟩; simp only [show readsP 31 = false from rfl]) | (go_at_call 67; refine (r_writes _ _).mono ?_; rintro e w1 ⟨rfl, rfl⟩; simp only [show writesP 31 = false from rfl]) | (go_at_call 69; refine (HZ.out _).mono ?_; rintro e w2 ⟨rfl, hm2⟩; have hbi := Blk.mod (b := w.heap.size) (T := 54) (cs := [.int .i64 31, .int .i64 kind, .int .i64 area, .int .i64 at_, .int .i64 n]) (by repeat (with_reducible first | exact Blk.new' rfl | (refine Blk.new' ?_; simp; done) | apply Blk.set | apply Blk.alloc)) hm2 (by simp); have qi := hbi.cell; have hbw := Blk.mod (b := w.heap.size + 1) (T := 54) (cs := [.int .i64 31, .int .i64 kind, .int .i64 0, .int .i64 0, .int .i64 0]) (by repeat (with_reducible first | exact Blk.new' rfl | (refine Blk.new' ?_; simp; done) | apply Blk.set | apply Blk.alloc)) hm2 (by simp); have qw := hbw.cell))
    all_goals
      go_ret
      refine ⟨by (show Ending.returned (.bool _) = _; congr 2; exact Bool.eq_iff_iff.2 (by simp [rightP, classP]; try omega)), ?_⟩
      repeat (with_reducible first | exact Mod.refl _ _ | refine Mod.drew ?_ | refine Mod.drewN ?_ _ | refine Mod.setCell ?_ _ (by first | (simp; done) | (simp; omega)) | refine Mod.alloc ?_ _ | refine Mod.trans ?_ (by assumption))

end Go.Proofs.Ytedmikeamgebjaa
