-- Written by a program out of the translation; not trusted: Lean checks it.
import Derived.Test.YtedmikeamgebjaaK
import Derived.Test.YtedmikeamgebjaaFx0
import Derived.Test.YtedmikeamgebjaaFx6
namespace Go.Proofs.Ytedmikeamgebjaa.F
open Go.Proofs.YtedmikeamgebjaaW.PrintK Go.RowKit Go.Proofs.YtedmikeamgebjaaW.PrintWords Go.Proofs.YtedmikeamgebjaaW.PrintLast Go.Proofs.YtedmikeamgebjaaW.PrintMore
attribute [local go_sem] max2_int min2_int max_two min_two max_three min_three max_four min_four   -- for this text's walks alone
set_option linter.unusedVariables false
set_option linter.unusedSimpArgs false

/-! ### fuglemanref05_Has: function 46 -/
mutual
def fuglemanref05_Has.j0 : Nat → Int → Int → Bool → Option (Bool)
 | 0, _, _, _ => none
 | k + 1, x0, x1, x11 => if x11 = true then (some false) else (fuglemanref05_Has.l0 k x0 x1 0)
def fuglemanref05_Has.l0 : Nat → Int → Int → Int → Option (Bool)
 | 0, _, _, _ => none
 | k + 1, x0, x1, x5 => if x5 < x1 then (fuglemanref05_Has.l0 k ((Int.tdiv x0 2) % 4294967296) x1 (wrap64 (x5 + 1))) else (some ((Int.tmod x0 2) == 1))
end
def fuglemanref05_Has.f (k : Nat) (a0 : Int) (a1 : Int) : Option (Bool) := if a1 < 0 then (fuglemanref05_Has.j0 k a0 a1 true) else (fuglemanref05_Has.j0 k a0 a1 (decide (a1 > 31)))
theorem fuglemanref05_Has.mono_l : ∀ k, (∀ y0 y1 y2, LeO (fuglemanref05_Has.j0 k y0 y1 y2) (fuglemanref05_Has.j0 (k + 1) y0 y1 y2)) ∧ (∀ y0 y1 y2, LeO (fuglemanref05_Has.l0 k y0 y1 y2) (fuglemanref05_Has.l0 (k + 1) y0 y1 y2))
 | 0 => ⟨fun _ _ _ r h => by simp [fuglemanref05_Has.j0] at h, fun _ _ _ r h => by simp [fuglemanref05_Has.l0] at h⟩
 | k + 1 => by
  obtain ⟨ih0, ih1⟩ := fuglemanref05_Has.mono_l k
  refine ⟨?_, ?_⟩
  ·intro y0 y1 y2
   unfold fuglemanref05_Has.j0
   repeat' first
   | (with_reducible exact ih0 _ _ _)
   | (with_reducible exact ih1 _ _ _)
   | (with_reducible exact LeO.refl _)
   | (with_reducible exact LeO.none _)
   | (with_reducible refine LeO.ite ?_ ?_)
   | (with_reducible refine LeO.bind ?_ (fun _ => ?_))
   | exact ih0 _ _ _
   | exact ih1 _ _ _
   | exact LeO.none _
   | refine LeO.ite ?_ ?_
   | refine LeO.bind ?_ (fun _ => ?_)
  ·intro y0 y1 y2
   unfold fuglemanref05_Has.l0
   repeat' first
   | (with_reducible exact ih0 _ _ _)
   | (with_reducible exact ih1 _ _ _)
   | (with_reducible exact LeO.refl _)
   | (with_reducible exact LeO.none _)
   | (with_reducible refine LeO.ite ?_ ?_)
   | (with_reducible refine LeO.bind ?_ (fun _ => ?_))
   | exact ih0 _ _ _
   | exact ih1 _ _ _
   | exact LeO.none _
   | refine LeO.ite ?_ ?_
   | refine LeO.bind ?_ (fun _ => ?_)
theorem fuglemanref05_Has.mono : ∀ a0 a1 k, LeO (fuglemanref05_Has.f k a0 a1) (fuglemanref05_Has.f (k + 1) a0 a1) := by
 intro a0 a1 k
 obtain ⟨ih0, ih1⟩ := fuglemanref05_Has.mono_l k
 unfold fuglemanref05_Has.f
 repeat' first
   | (with_reducible exact ih0 _ _ _)
   | (with_reducible exact ih1 _ _ _)
   | (with_reducible exact LeO.refl _)
   | (with_reducible exact LeO.none _)
   | (with_reducible refine LeO.ite ?_ ?_)
   | (with_reducible refine LeO.bind ?_ (fun _ => ?_))
   | exact ih0 _ _ _
   | exact ih1 _ _ _
   | exact LeO.none _
   | refine LeO.ite ?_ ?_
   | refine LeO.bind ?_ (fun _ => ?_)
set_option maxHeartbeats 8000000 in
set_option maxRecDepth 100000 in
theorem fuglemanref05_Has.calls (k : Nat) (a0 : Int) (a1 : Int) (r : Bool) (w : World) (h : fuglemanref05_Has.f k a0 a1 = some r) :
  Calls Try.prog 46 #[.int .u32 a0, .int .i64 a1] w fun e w' => e = .returned (.bool r) ∧ Drawn0 w w' := by
 have H : (if a1 < 0 then (fuglemanref05_Has.j0 k a0 a1 true) else (fuglemanref05_Has.j0 k a0 a1 (decide (a1 > 31)))) = some r := h
 clear h
 have HC3 := Aside0.mk H
 clear H
 go_enter Try.func46, Try.ntmps46
 go_upto_region 1 with (fail)
 go_cut [11] (fun v11 wc => ∃ (kq : Nat) (x11_2 : Bool), v11 = .bool x11_2 ∧ Aside0 (fuglemanref05_Has.j0 kq a0 a1 x11_2 = some r) ∧ Aside0 (kq ≤ k) ∧ Drawn0 w wc)
 case first =>
  have H := HC3.out
  clear HC3
  by_cases c4 : a1 < 0
  ·rw [if_pos c4] at H
   have c4b0 : decide (a1 < 0) = true := decide_eq_true c4
   clear c4
   (first | rw [c4b0] | (simp only [i64_w, i32_w]; rw [c4b0]) | skip)
   have H' := Aside0.mk H
   clear H
   go_wp2
   go_meet
   case rel => exact ⟨_, (true), (by first | rfl | (simp; done) | (simp [*]; done)), H', ⟨by first | omega | exact Nat.le_refl _⟩, by repeat (first | exact Drawn0.refl _ | apply Drawn0.step)⟩
  rw [if_neg c4] at H
  have c4b0 : decide (a1 < 0) = false := decide_eq_false c4
  clear c4
  (first | rw [c4b0] | (simp only [i64_w, i32_w]; rw [c4b0]) | skip)
  have H' := Aside0.mk H
  clear H
  go_wp2
  go_meet
  case rel => exact ⟨_, (decide (a1 > 31)), (by first | rfl | (simp; done) | (simp [*]; done)), H', ⟨by first | omega | exact Nat.le_refl _⟩, by repeat (first | exact Drawn0.refl _ | apply Drawn0.step)⟩
 clear HC3
 (try clear c4); (try clear c4b0)
 obtain ⟨kq, x11_2, rfl, HA, HJ2, ⟨mc2, rfl⟩⟩ := hcut
 cases kq with
 | zero => exact absurd HA.out (by simp [fuglemanref05_Has.j0])
 | succ kj2 =>
  have H := HA.out
  clear HA
  simp only [fuglemanref05_Has.j0] at H
  by_cases c5 : x11_2 = true
  ·subst c5
   have H1 : (some false) = some r := by rw [if_pos rfl] at H; exact H
   clear H
   have H := H1
   clear H1
   obtain rfl := Option.some.inj H
   go_wp2
   go_ret
   exact ⟨by first | rfl | (simp; done) | (simp [*]; done), by repeat (first | exact Drawn0.refl _ | apply Drawn0.step)⟩
  ·replace c5 := Bool.eq_false_iff.mpr c5
   subst c5
   have H1 : (fuglemanref05_Has.l0 kj2 a0 a1 0) = some r := by rw [if_neg (show ¬ (false = true) by decide)] at H; exact H
   clear H
   have H := H1
   clear H1
   have H' := Aside0.mk H
   clear H
   go_wp2
   go_loopg [0, 5] kj2 (fun kq v0 v5 w' => ∃ (x0_2 : Int) (x5_2 : Int), v0 = .int .u32 x0_2 ∧ v5 = .int .i64 x5_2 ∧ Aside0 (fuglemanref05_Has.l0 kq x0_2 a1 x5_2 = some r) ∧ Aside0 (kq ≤ kj2) ∧ Drawn0 w w')
   case atStart => exact ⟨(a0), (0), (by first | rfl | (simp; done) | (simp [*]; done)), (by first | rfl | (simp; done) | (simp [*]; done)), H', ⟨Nat.le_refl _⟩, by repeat (first | exact Drawn0.refl _ | apply Drawn0.step)⟩
   case round =>
    clear H'
    (try clear c4); (try clear c4b0); (try clear c5)
    obtain ⟨x0_2, x5_2, rfl, rfl, HA, HK2, ⟨m2, rfl⟩⟩ := hrel
    cases gk with
    | zero => exact absurd HA.out (by simp [fuglemanref05_Has.l0])
    | succ k2 =>
     have H := HA.out
     clear HA
     simp only [fuglemanref05_Has.l0] at H
     by_cases c6 : x5_2 < a1
     ·rw [if_pos c6] at H
      have c6b0 : decide (x5_2 < a1) = true := decide_eq_true c6
      clear c6
      have H' := Aside0.mk H
      clear H
      go_wp2
      go_roundg k2
      case measure => have := HJ2.out; have := HK2.out; omega
      case rel => exact ⟨((Int.tdiv x0_2 2) % 4294967296), (wrap64 (x5_2 + 1)), (by first | rfl | (simp; done) | (simp [*]; done)), (by first | rfl | (simp; done) | (simp [*]; done)), H', ⟨by have := HJ2.out; have := HK2.out; omega⟩, by repeat (first | exact Drawn0.refl _ | apply Drawn0.step)⟩
     ·rw [if_neg c6] at H
      have c6b0 : decide (x5_2 < a1) = false := decide_eq_false c6
      clear c6
      obtain rfl := Option.some.inj H
      go_wp2
      go_ret
      exact ⟨by first | rfl | (simp; done) | (simp [*]; done), by repeat (first | exact Drawn0.refl _ | apply Drawn0.step)⟩

/-! ### fuglemanref05_With: function 29 -/
mutual
def fuglemanref05_With.j0 : Nat → Int → Int → Bool → Option (Int)
 | 0, _, _, _ => none
 | k + 1, x0, x1, x17 => if x17 = true then (some x0) else (fuglemanref05_With.l0 k x0 x1 1 0)
def fuglemanref05_With.l0 : Nat → Int → Int → Int → Int → Option (Int)
 | 0, _, _, _, _ => none
 | k + 1, x0, x1, x5, x6 => if x6 < x1 then (fuglemanref05_With.l0 k x0 x1 ((x5 * 2) % 4294967296) (wrap64 (x6 + 1))) else (some ((x0 + x5) % 4294967296))
end
def fuglemanref05_With.f (k : Nat) (a0 : Int) (a1 : Int) : Option (Int) := if a1 < 0 then (fuglemanref05_With.j0 k a0 a1 true) else (if a1 > 31 then (fuglemanref05_With.j0 k a0 a1 true) else ((fuglemanref05_Has.f k a0 a1).bind fun t192 => (fuglemanref05_With.j0 k a0 a1 t192)))
theorem fuglemanref05_With.mono_l : ∀ k, (∀ y0 y1 y2, LeO (fuglemanref05_With.j0 k y0 y1 y2) (fuglemanref05_With.j0 (k + 1) y0 y1 y2)) ∧ (∀ y0 y1 y2 y3, LeO (fuglemanref05_With.l0 k y0 y1 y2 y3) (fuglemanref05_With.l0 (k + 1) y0 y1 y2 y3))
 | 0 => ⟨fun _ _ _ r h => by simp [fuglemanref05_With.j0] at h, fun _ _ _ _ r h => by simp [fuglemanref05_With.l0] at h⟩
 | k + 1 => by
  obtain ⟨ih0, ih1⟩ := fuglemanref05_With.mono_l k
  refine ⟨?_, ?_⟩
  ·intro y0 y1 y2
   unfold fuglemanref05_With.j0
   repeat' first
   | (with_reducible exact ih0 _ _ _)
   | (with_reducible exact ih1 _ _ _ _)
   | (with_reducible exact fuglemanref05_Has.mono _ _ _)
   | (with_reducible exact LeO.refl _)
   | (with_reducible exact LeO.none _)
   | (with_reducible refine LeO.ite ?_ ?_)
   | (with_reducible refine LeO.bind ?_ (fun _ => ?_))
   | exact ih0 _ _ _
   | exact ih1 _ _ _ _
   | exact fuglemanref05_Has.mono _ _ _
   | exact LeO.none _
   | refine LeO.ite ?_ ?_
   | refine LeO.bind ?_ (fun _ => ?_)
  ·intro y0 y1 y2 y3
   unfold fuglemanref05_With.l0
   repeat' first
   | (with_reducible exact ih0 _ _ _)
   | (with_reducible exact ih1 _ _ _ _)
   | (with_reducible exact fuglemanref05_Has.mono _ _ _)
   | (with_reducible exact LeO.refl _)
   | (with_reducible exact LeO.none _)
   | (with_reducible refine LeO.ite ?_ ?_)
   | (with_reducible refine LeO.bind ?_ (fun _ => ?_))
   | exact ih0 _ _ _
   | exact ih1 _ _ _ _
   | exact fuglemanref05_Has.mono _ _ _
   | exact LeO.none _
   | refine LeO.ite ?_ ?_
   | refine LeO.bind ?_ (fun _ => ?_)
theorem fuglemanref05_With.mono : ∀ a0 a1 k, LeO (fuglemanref05_With.f k a0 a1) (fuglemanref05_With.f (k + 1) a0 a1) := by
 intro a0 a1 k
 obtain ⟨ih0, ih1⟩ := fuglemanref05_With.mono_l k
 unfold fuglemanref05_With.f
 repeat' first
   | (with_reducible exact ih0 _ _ _)
   | (with_reducible exact ih1 _ _ _ _)
   | (with_reducible exact fuglemanref05_Has.mono _ _ _)
   | (with_reducible exact LeO.refl _)
   | (with_reducible exact LeO.none _)
   | (with_reducible refine LeO.ite ?_ ?_)
   | (with_reducible refine LeO.bind ?_ (fun _ => ?_))
   | exact ih0 _ _ _
   | exact ih1 _ _ _ _
   | exact fuglemanref05_Has.mono _ _ _
   | exact LeO.none _
   | refine LeO.ite ?_ ?_
   | refine LeO.bind ?_ (fun _ => ?_)
set_option maxHeartbeats 8000000 in
set_option maxRecDepth 100000 in
theorem fuglemanref05_With.calls (k : Nat) (a0 : Int) (a1 : Int) (r : Int) (w : World) (h : fuglemanref05_With.f k a0 a1 = some r) :
  Calls Try.prog 29 #[.int .u32 a0, .int .i64 a1] w fun e w' => e = .returned (.int .u32 r) ∧ Drawn0 w w' := by
 have H : (if a1 < 0 then (fuglemanref05_With.j0 k a0 a1 true) else (if a1 > 31 then (fuglemanref05_With.j0 k a0 a1 true) else ((fuglemanref05_Has.f k a0 a1).bind fun t192 => (fuglemanref05_With.j0 k a0 a1 t192)))) = some r := h
 clear h
 have HC3 := Aside0.mk H
 clear H
 go_enter Try.func29, Try.ntmps29
 go_upto_region 1 with (fail)
 go_cut [17] (fun v17 wc => ∃ (kq : Nat) (x17_2 : Bool), v17 = .bool x17_2 ∧ Aside0 (fuglemanref05_With.j0 kq a0 a1 x17_2 = some r) ∧ Aside0 (kq ≤ k) ∧ Drawn0 w wc)
 case first =>
  have H := HC3.out
  clear HC3
  by_cases c4 : a1 < 0
  ·rw [if_pos c4] at H
   have c4b0 : decide (a1 < 0) = true := decide_eq_true c4
   clear c4
   (first | rw [c4b0] | (simp only [i64_w, i32_w]; rw [c4b0]) | skip)
   have H' := Aside0.mk H
   clear H
   go_wp2
   go_meet
   case rel => exact ⟨_, (true), (by first | rfl | (simp; done) | (simp [*]; done)), H', ⟨by first | omega | exact Nat.le_refl _⟩, by repeat (first | exact Drawn0.refl _ | apply Drawn0.step)⟩
  rw [if_neg c4] at H
  have c4b0 : decide (a1 < 0) = false := decide_eq_false c4
  clear c4
  (first | rw [c4b0] | (simp only [i64_w, i32_w]; rw [c4b0]) | skip)
  by_cases c5 : a1 > 31
  ·rw [if_pos c5] at H
   have c5b0 : decide (31 < a1) = true := decide_eq_true c5
   clear c5
   have H' := Aside0.mk H
   clear H
   go_wp2
   go_meet
   case rel => exact ⟨_, (true), (by first | rfl | (simp; done) | (simp [*]; done)), H', ⟨by first | omega | exact Nat.le_refl _⟩, by repeat (first | exact Drawn0.refl _ | apply Drawn0.step)⟩
  rw [if_neg c5] at H
  have c5b0 : decide (31 < a1) = false := decide_eq_false c5
  clear c5
  replace H := Option.bind_eq_some_iff.mp H
  obtain ⟨t192, A60, H⟩ := H
  replace H : (fuglemanref05_With.j0 k a0 a1 t192) = some r := H
  have A6 := Aside0.mk A60
  clear A60
  have H' := Aside0.mk H
  clear H
  go_wp2_with (first | (go_at_call 46; (with_reducible refine (fuglemanref05_Has.calls k a0 a1 t192 _ A6.out).mono ?_); rintro e w' ⟨rfl, ⟨nd, rfl⟩⟩))
  go_meet
  case rel => exact ⟨_, (t192), (by first | rfl | (simp; done) | (simp [*]; done)), H', ⟨by first | omega | exact Nat.le_refl _⟩, by repeat (first | exact Drawn0.refl _ | apply Drawn0.step)⟩
 clear HC3
 (try clear c4); (try clear c4b0); (try clear c5); (try clear c5b0)
 obtain ⟨kq, x17_2, rfl, HA, HJ2, ⟨mc2, rfl⟩⟩ := hcut
 cases kq with
 | zero => exact absurd HA.out (by simp [fuglemanref05_With.j0])
 | succ kj2 =>
  have H := HA.out
  clear HA
  simp only [fuglemanref05_With.j0] at H
  by_cases c7 : x17_2 = true
  ·subst c7
   have H1 : (some a0) = some r := by rw [if_pos rfl] at H; exact H
   clear H
   have H := H1
   clear H1
   obtain rfl := Option.some.inj H
   go_wp2
   go_ret
   exact ⟨by first | rfl | (simp; done) | (simp [*]; done), by repeat (first | exact Drawn0.refl _ | apply Drawn0.step)⟩
  ·replace c7 := Bool.eq_false_iff.mpr c7
   subst c7
   have H1 : (fuglemanref05_With.l0 kj2 a0 a1 1 0) = some r := by rw [if_neg (show ¬ (false = true) by decide)] at H; exact H
   clear H
   have H := H1
   clear H1
   have H' := Aside0.mk H
   clear H
   go_wp2
   go_loopg [5, 6] kj2 (fun kq v5 v6 w' => ∃ (x5_2 : Int) (x6_2 : Int), v5 = .int .u32 x5_2 ∧ v6 = .int .i64 x6_2 ∧ Aside0 (fuglemanref05_With.l0 kq a0 a1 x5_2 x6_2 = some r) ∧ Aside0 (kq ≤ kj2) ∧ Drawn0 w w')
   case atStart => exact ⟨(1), (0), (by first | rfl | (simp; done) | (simp [*]; done)), (by first | rfl | (simp; done) | (simp [*]; done)), H', ⟨Nat.le_refl _⟩, by repeat (first | exact Drawn0.refl _ | apply Drawn0.step)⟩
   case round =>
    clear H'
    (try clear c4); (try clear c4b0); (try clear c5); (try clear c5b0); (try clear c7)
    obtain ⟨x5_2, x6_2, rfl, rfl, HA, HK2, ⟨m2, rfl⟩⟩ := hrel
    cases gk with
    | zero => exact absurd HA.out (by simp [fuglemanref05_With.l0])
    | succ k2 =>
     have H := HA.out
     clear HA
     simp only [fuglemanref05_With.l0] at H
     by_cases c8 : x6_2 < a1
     ·rw [if_pos c8] at H
      have c8b0 : decide (x6_2 < a1) = true := decide_eq_true c8
      clear c8
      have H' := Aside0.mk H
      clear H
      go_wp2
      go_roundg k2
      case measure => have := HJ2.out; have := HK2.out; omega
      case rel => exact ⟨((x5_2 * 2) % 4294967296), (wrap64 (x6_2 + 1)), (by first | rfl | (simp; done) | (simp [*]; done)), (by first | rfl | (simp; done) | (simp [*]; done)), H', ⟨by have := HJ2.out; have := HK2.out; omega⟩, by repeat (first | exact Drawn0.refl _ | apply Drawn0.step)⟩
     ·rw [if_neg c8] at H
      have c8b0 : decide (x6_2 < a1) = false := decide_eq_false c8
      clear c8
      obtain rfl := Option.some.inj H
      go_wp2
      go_ret
      exact ⟨by first | rfl | (simp; done) | (simp [*]; done), by repeat (first | exact Drawn0.refl _ | apply Drawn0.step)⟩

/-! ### fuglemanref20_Addrs: function 14 -/
def fuglemanref20_Addrs.l0 : Nat → Int → Int → Int → Int → Int → Int → Int → Int → List (S63) → List (S37) → Option (Int)
 | 0, _, _, _, _, _, _, _, _, _, _ => none
 | k + 1, x3, x4, x194000, x194001, x194002, x194003, x194004, x194005, x194006, x194007 => if x4 < (x194007.length : Int) then (if 0 ≤ x4 then ((fuglemanref05_With.f k x3 ((rd_T37 x194007 x4).f0)).bind fun t195 => (fuglemanref20_Addrs.l0 k t195 (wrap64 (x4 + 1)) x194000 x194001 x194002 x194003 x194004 x194005 x194006 x194007)) else (none)) else (some x3)
def fuglemanref20_Addrs.f (k : Nat) (a0_0 : Int) (a0_1 : Int) (a0_2 : Int) (a0_3 : Int) (a0_4 : Int) (a0_5 : Int) (l0_6 : List (S63)) (l0_7 : List (S37)) : Option (Int) := fuglemanref20_Addrs.l0 k 0 0 a0_0 a0_1 a0_2 a0_3 a0_4 a0_5 l0_6 l0_7
theorem fuglemanref20_Addrs.mono_l : ∀ k, (∀ y0 y1 y2 y3 y4 y5 y6 y7 y8 y9, LeO (fuglemanref20_Addrs.l0 k y0 y1 y2 y3 y4 y5 y6 y7 y8 y9) (fuglemanref20_Addrs.l0 (k + 1) y0 y1 y2 y3 y4 y5 y6 y7 y8 y9))
 | 0 => fun _ _ _ _ _ _ _ _ _ _ r h => by simp [fuglemanref20_Addrs.l0] at h
 | k + 1 => by
  have ih0 := fuglemanref20_Addrs.mono_l k
  ·intro y0 y1 y2 y3 y4 y5 y6 y7 y8 y9
   unfold fuglemanref20_Addrs.l0
   repeat' first
   | (with_reducible exact ih0 _ _ _ _ _ _ _ _ _ _)
   | (with_reducible exact fuglemanref05_With.mono _ _ _)
   | (with_reducible exact LeO.refl _)
   | (with_reducible exact LeO.none _)
   | (with_reducible refine LeO.ite ?_ ?_)
   | (with_reducible refine LeO.bind ?_ (fun _ => ?_))
   | exact ih0 _ _ _ _ _ _ _ _ _ _
   | exact fuglemanref05_With.mono _ _ _
   | exact LeO.none _
   | refine LeO.ite ?_ ?_
   | refine LeO.bind ?_ (fun _ => ?_)
theorem fuglemanref20_Addrs.mono : ∀ a0 a1 a2 a3 a4 a5 a6 a7 k, LeO (fuglemanref20_Addrs.f k a0 a1 a2 a3 a4 a5 a6 a7) (fuglemanref20_Addrs.f (k + 1) a0 a1 a2 a3 a4 a5 a6 a7) := by
 intro a0 a1 a2 a3 a4 a5 a6 a7 k
 have ih0 := fuglemanref20_Addrs.mono_l k
 unfold fuglemanref20_Addrs.f
 repeat' first
   | (with_reducible exact ih0 _ _ _ _ _ _ _ _ _ _)
   | (with_reducible exact fuglemanref05_With.mono _ _ _)
   | (with_reducible exact LeO.refl _)
   | (with_reducible exact LeO.none _)
   | (with_reducible refine LeO.ite ?_ ?_)
   | (with_reducible refine LeO.bind ?_ (fun _ => ?_))
   | exact ih0 _ _ _ _ _ _ _ _ _ _
   | exact fuglemanref05_With.mono _ _ _
   | exact LeO.none _
   | refine LeO.ite ?_ ?_
   | refine LeO.bind ?_ (fun _ => ?_)
set_option maxHeartbeats 8000000 in
set_option maxRecDepth 100000 in
theorem fuglemanref20_Addrs.calls (k : Nat) (a0_0 : Int) (a0_1 : Int) (a0_2 : Int) (a0_3 : Int) (a0_4 : Int) (a0_5 : Int) (A0_6 : Option Addr) (c0_6 : Nat) (l0_6 : List (S63)) (A0_7 : Option Addr) (c0_7 : Nat) (l0_7 : List (S37)) (r : Int) (w : World) (hr0_6 : Kd.C k63 w A0_6 l0_6.length l0_6) (hc0_6 : l0_6.length ≤ c0_6) (hr0_7 : Kd.C k37 w A0_7 l0_7.length l0_7) (hc0_7 : l0_7.length ≤ c0_7) (h : fuglemanref20_Addrs.f k a0_0 a0_1 a0_2 a0_3 a0_4 a0_5 l0_6 l0_7 = some r) :
  Calls Try.prog 14 #[.agg #[.int .i64 a0_0, .int .i64 a0_1, .int .i64 a0_2, .int .i64 a0_3, .int .i64 a0_4, .int .i64 a0_5, .slice A0_6 l0_6.length c0_6, .slice A0_7 l0_7.length c0_7]] w fun e w' => e = .returned (.int .u32 r) ∧ Below w.heap.size w w' := by
 have hu25 := Try.underlying25
 have HR0_6 := Aside0.mk hr0_6
 have HC0_6 := Aside0.mk hc0_6
 clear hr0_6 hc0_6
 have HR0_7 := Aside0.mk hr0_7
 have HC0_7 := Aside0.mk hc0_7
 clear hr0_7 hc0_7
 have HB := Aside0.mk (Below.refl w.heap.size w)
 have H : (fuglemanref20_Addrs.l0 k 0 0 a0_0 a0_1 a0_2 a0_3 a0_4 a0_5 l0_6 l0_7) = some r := h
 clear h
 have H' := Aside0.mk H
 clear H
 go_enter Try.func14, Try.ntmps14
 go_wp2_with (first | ((with_reducible refine gate_dst (N := 1) rfl ?_); refine boxK (N := 1) (#[.int .i64 a0_0, .int .i64 a0_1, .int .i64 a0_2, .int .i64 a0_3, .int .i64 a0_4, .int .i64 a0_5, .slice A0_6 l0_6.length c0_6, .slice A0_7 l0_7.length c0_7]) 25 ?_; intro gb193 hg w2 hbox hb; have BK193 := Aside0.mk (hbox); have GW193 := sG hg HB; have GE193 := sG hg HB; replace HB := sB HB hb; clear hb hbox hg))
 go_loopg [3, 4] k (fun kq v3 v4 w' => ∃ (x3_1 : Int) (x4_1 : Int), v3 = .int .u32 x3_1 ∧ v4 = .int .i64 x4_1 ∧ Aside0 (fuglemanref20_Addrs.l0 kq x3_1 x4_1 a0_0 a0_1 a0_2 a0_3 a0_4 a0_5 l0_6 l0_7 = some r) ∧ Aside0 (kq ≤ k) ∧ Aside0 (w'.heap[gb193]? = some (.cells #[.int .i64 a0_0, .int .i64 a0_1, .int .i64 a0_2, .int .i64 a0_3, .int .i64 a0_4, .int .i64 a0_5, (.slice A0_6 l0_6.length c0_6), (.slice A0_7 l0_7.length c0_7)] 25 (0, 0))) ∧ Aside0 (Below w.heap.size w w'))
 case atStart => exact ⟨(0), (0), (by first | rfl | (simp; done) | (simp [*]; done)), (by first | rfl | (simp; done) | (simp [*]; done)), H', ⟨Nat.le_refl _⟩, (sK0 BK193), (sB0 HB)⟩
 clear H'
 obtain ⟨x3_1, x4_1, rfl, rfl, HA, HK1, BK193, HB⟩ := hrel
 cases gk with
 | zero => exact absurd HA.out (by simp [fuglemanref20_Addrs.l0])
 | succ k1 =>
  have H := HA.out
  clear HA
  simp only [fuglemanref20_Addrs.l0] at H
  by_cases c3 : x4_1 < (l0_7.length : Int)
  ·rw [if_pos c3] at H
   have c3b0 : decide (x4_1 < (l0_7.length : Int)) = true := decide_eq_true c3
   clear c3
   by_cases c4 : 0 ≤ x4_1
   ·rw [if_pos c4] at H
    have c4b0 : decide (0 ≤ x4_1) = true := decide_eq_true c4
    clear c4
    replace H := Option.bind_eq_some_iff.mp H
    obtain ⟨t195, A50, H⟩ := H
    replace H : (fuglemanref20_Addrs.l0 k1 t195 (wrap64 (x4_1 + 1)) a0_0 a0_1 a0_2 a0_3 a0_4 a0_5 l0_6 l0_7) = some r := H
    have A5 := Aside0.mk A50
    clear A50
    have H' := Aside0.mk H
    clear H
    obtain ⟨z6_0, z6_1, z6_2, z6_3, z6_4, z6_5, z6_6, z6_7, q6_0, q6_1, q6_2, q6_3, q6_4, q6_5, q6_6, q6_7⟩ := bk8 BK193
    have p194 : 0 ≤ (x4_1 : Int) := of_decide_eq_true (by first | (with_reducible assumption) | assumption)
    have q194 : x4_1 < (l0_7.length : Int) := of_decide_eq_true (by first | (with_reducible assumption) | assumption)
    obtain ⟨ad194, A194_3, c194_3, A194_4, c194_4, A194_5, c194_5, e194, hx194_0, hx194_1, hx194_2, hx194_3, hx194_4, hx194_5, hl194_3, hi194_3, hl194_4, hi194_4, hl194_5, hi194_5⟩ := at_T37 HR0_7.out x4_1 p194 q194
    cases e194
    replace hx194_0 := (HB.out.cell (World.block_lt_of_cell? w _ hx194_0)).trans hx194_0
    replace hx194_1 := (HB.out.cell (World.block_lt_of_cell? w _ hx194_1)).trans hx194_1
    replace hx194_2 := (HB.out.cell (World.block_lt_of_cell? w _ hx194_2)).trans hx194_2
    replace hx194_3 := (HB.out.cell (World.block_lt_of_cell? w _ hx194_3)).trans hx194_3
    replace hx194_4 := (HB.out.cell (World.block_lt_of_cell? w _ hx194_4)).trans hx194_4
    replace hx194_5 := (HB.out.cell (World.block_lt_of_cell? w _ hx194_5)).trans hx194_5
    have HR194_3 := Aside0.mk hi194_3
    have HC194_3 := Aside0.mk hl194_3
    clear hi194_3 hl194_3
    have HR194_4 := Aside0.mk hi194_4
    have HC194_4 := Aside0.mk hl194_4
    clear hi194_4 hl194_4
    have HR194_5 := Aside0.mk hi194_5
    have HC194_5 := Aside0.mk hl194_5
    clear hi194_5 hl194_5
    replace p194 := eq_true p194
    replace q194 := eq_true q194
    go_wp2_with (first | ((with_reducible refine gate_callee (f := 29) rfl ?_); refine goesK (some 19) Try.func29 #[.int .u32 x3_1, .int .i64 ((rd_T37 l0_7 x4_1).f0)] ?_; (with_reducible refine (fuglemanref05_With.calls k1 x3_1 ((rd_T37 l0_7 x4_1).f0) t195 _ A5.out).mono ?_); rintro e w' ⟨rfl, ⟨nd, rfl⟩⟩; refine ⟨_, rfl, ?_⟩))
    go_roundg k1
    case measure => have := HK1.out; omega
    case rel => exact ⟨(t195), (wrap64 (x4_1 + 1)), (by first | rfl | (simp; done) | (simp [*]; done)), (by first | rfl | (simp; done) | (simp [*]; done)), H', ⟨by have := HK1.out; omega⟩, (sK0 BK193), (sB0 HB)⟩
   ·rw [if_neg c4] at H
    exact absurd H (by simp)
  ·rw [if_neg c3] at H
   have c3b0 : decide (x4_1 < (l0_7.length : Int)) = false := decide_eq_false c3
   clear c3
   obtain rfl := Option.some.inj H
   obtain ⟨z7_0, z7_1, z7_2, z7_3, z7_4, z7_5, z7_6, z7_7, q7_0, q7_1, q7_2, q7_3, q7_4, q7_5, q7_6, q7_7⟩ := bk8 BK193
   go_wp2
   go_ret
   exact sEnd HB

/-! ### config_Readers: function 15 -/
theorem pred32 (a : Int) (B : Nat) (w : World) (hB : B < w.heap.size) (hcell : w.cell? ⟨B, 0, none⟩ = some (.int .i64 a)) :
  PredB k56 32 #[.pointer (some ⟨B, 0, none⟩)] (fun x => x.f0 == a) w := fun W x cs hb hK => by
 obtain rfl := k56_open hK
 have hc : W.cell? ⟨B, 0, none⟩ = some (.int .i64 a) := (hb.cell (p := ⟨B, 0, none⟩) hB).trans hcell
 have hBW : B < W.heap.size := Nat.lt_of_lt_of_le hB hb.size
 have hne : B ≠ W.heap.size := by omega
 show Calls Try.prog 32 #[.agg #[.int .i64 x.f0, .int .i64 x.f1], .pointer (some ⟨B, 0, none⟩)] W _
 go_enter Try.func32, Try.ntmps32
 go_wp2
 all_goals (go_ret; exact ⟨by simp_all, (Below.refl _ W).alloc (Nat.le_refl _) _⟩)
theorem pred30 (a : Int) (B : Nat) (w : World) (hB : B < w.heap.size) (hcell : w.cell? ⟨B, 0, none⟩ = some (.int .i64 a)) :
  PredB k37 30 #[.pointer (some ⟨B, 0, none⟩)] (fun x => x.f4.any fun y => y.f0 == a) w := fun W x cs hb hK => by
 obtain ⟨A3, c3, A4, c4, A5, c5, rfl, l3, g3, l4, g4, l5, g5⟩ := k37_open hK
 have eg : ∀ args w, (callFunc 32 args).run Try.prog w = .ok (.enter 32 args) w := enters_of Try.func32 (by kernel_rfl) rfl
 have hb1 : Below w.heap.size w (W.alloc (.cells #[.int .i64 x.f0, .int .i64 x.f1, .int .i64 x.f2, .slice A3 x.f3.length c3, .slice A4 x.f4.length c4, .slice A5 x.f5.length c5] 37)) := hb.alloc hb.size _
 have hcon := has_spot k56 rfl (fun y => y.f0 == a) 32 #[.pointer (some ⟨B, 0, none⟩)] eg A4 c4 x.f4 _ (pred32 a B _ (Nat.lt_of_lt_of_le hB hb1.size) ((hb1.cell (p := ⟨B, 0, none⟩) hB).trans hcell)) (Kd.C_below g4 hb1) l4
 have HB := Aside0.mk hb1
 clear hb1 hb l3 g3 l4 g4 l5 g5 hK
 show Calls Try.prog 30 #[.agg #[.int .i64 x.f0, .int .i64 x.f1, .int .i64 x.f2, .slice A3 x.f3.length c3, .slice A4 x.f4.length c4, .slice A5 x.f5.length c5], .pointer (some ⟨B, 0, none⟩)] W fun e w' => e = .returned (.bool (x.f4.any fun y => y.f0 == a)) ∧ Below W.heap.size W w'
 generalize (x.f4.any fun y => y.f0 == a) = r at hcon ⊢
 generalize x.f3.length = m3 at *
 generalize x.f4.length = m4 at *
 generalize x.f5.length = m5 at *
 go_enter Try.func30, Try.ntmps30
 go_wp2_with (go_at_call 31; refine hcon.mono ?_; rintro e w' ⟨rfl, hb'⟩)
 go_ret
 exact ⟨rfl, ((Below.refl _ W).alloc (Nat.le_refl _) _).trans (hb'.mono (by simp))⟩
def config_Readers.f (a0_0 : Int) (a0_1 : Int) (a0_2 : Int) (a0_3 : Int) (a0_4 : Int) (a0_5 : Int) (l0_6 : List S63) (l0_7 : List S37) (a1 : Int) : Option Int := setF (fun x => x.f4.any fun y => y.f0 == a1) 0 l0_7
set_option maxHeartbeats 1000000 in
theorem config_Readers.calls (a0_0 : Int) (a0_1 : Int) (a0_2 : Int) (a0_3 : Int) (a0_4 : Int) (a0_5 : Int) (A0_6 : Option Addr) (c0_6 : Nat) (l0_6 : List S63) (A0_7 : Option Addr) (c0_7 : Nat) (l0_7 : List S37) (a1 : Int) (r : Int) (w : World) (hr0_6 : Kd.C k63 w A0_6 l0_6.length l0_6) (hc0_6 : l0_6.length ≤ c0_6) (hr0_7 : Kd.C k37 w A0_7 l0_7.length l0_7) (hc0_7 : l0_7.length ≤ c0_7) (h : config_Readers.f a0_0 a0_1 a0_2 a0_3 a0_4 a0_5 l0_6 l0_7 a1 = some r) :
  Calls Try.prog 15 #[.agg #[.int .i64 a0_0, .int .i64 a0_1, .int .i64 a0_2, .int .i64 a0_3, .int .i64 a0_4, .int .i64 a0_5, .slice A0_6 l0_6.length c0_6, .slice A0_7 l0_7.length c0_7], .int .i64 a1] w fun e w' => e = .returned (.int .u32 r) ∧ Below w.heap.size w w' := by
 have eg : ∀ args w, (callFunc 30 args).run Try.prog w = .ok (.enter 30 args) w := enters_of Try.func30 (by kernel_rfl) rfl
 have hB : Below w.heap.size w ((w.alloc (.cells #[.int .i64 a0_0, .int .i64 a0_1, .int .i64 a0_2, .int .i64 a0_3, .int .i64 a0_4, .int .i64 a0_5, .slice A0_6 l0_6.length c0_6, .slice A0_7 l0_7.length c0_7] 25)).alloc (.cells #[.int .i64 a1] 3)) := ((Below.refl _ w).alloc (Nat.le_refl _) _).alloc (by simp) _
 have hcon := set_calls a0_0 a0_1 a0_2 a0_3 a0_4 a0_5 A0_6 c0_6 l0_6 A0_7 c0_7 l0_7 _ 30 #[.pointer (some ⟨w.heap.size + 1, 0, none⟩)] eg r _ (pred30 a1 (w.heap.size + 1) ((w.alloc (.cells #[.int .i64 a0_0, .int .i64 a0_1, .int .i64 a0_2, .int .i64 a0_3, .int .i64 a0_4, .int .i64 a0_5, .slice A0_6 l0_6.length c0_6, .slice A0_7 l0_7.length c0_7] 25)).alloc (.cells #[.int .i64 a1] 3)) (by simp) (by simp)) (Kd.C_below hr0_6 hB) hc0_6 (Kd.C_below hr0_7 hB) hc0_7 h
 clear hr0_6 hr0_7 hc0_6 hc0_7 h
 have HB := Aside0.mk hB
 clear hB
 generalize l0_6.length = n6 at *
 generalize l0_7.length = n7 at *
 go_enter Try.func15, Try.ntmps15
 go_wp2_with (go_at_call 27; refine hcon.mono ?_; rintro e w' ⟨rfl, hb'⟩)
 go_ret
 exact ⟨rfl, HB.out.trans (hb'.mono (by simp; omega))⟩

end Go.Proofs.Ytedmikeamgebjaa.F
