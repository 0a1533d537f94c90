-- Written by a program out of the translation; not trusted: Lean checks it.
import Derived.Test.YtedmikeamgebjaaK
import Derived.Test.YtedmikeamgebjaaK2
import Derived.Test.YtedmikeamgebjaaRx0
namespace Go.Proofs.Ytedmikeamgebjaa.R
open Go.Proofs.YtedmikeamgebjaaW.PrintK Go.RowKit Go.Proofs.YtedmikeamgebjaaW.PrintWords Go.Proofs.YtedmikeamgebjaaW.PrintLast Go.Proofs.YtedmikeamgebjaaW.PrintMore
attribute [local go_sem] max2_int min2_int max_two min_two max_three min_three max_four min_four   -- for this text's walks alone
set_option linter.unusedVariables false
set_option linter.unusedSimpArgs false

/-! ### config_in: function 21 -/
def config_in.f (a0 a1 a2 : Int) : Option (Bool) := if a0 ≥ a1 then (some (decide (a0 ≤ a2))) else (some false)
set_option maxHeartbeats 8000000 in
set_option maxRecDepth 100000 in
theorem config_in.calls (a0 a1 a2 : Int) (r : Bool) (w : World) (h : config_in.f a0 a1 a2 = some r) :
  Calls Try.prog 21 #[.int .i64 a0, .int .i64 a1, .int .i64 a2] w fun e w' => e = .returned (.bool r) ∧ Drawn0 w w' := by
 have H : (if a0 ≥ a1 then (some (decide (a0 ≤ a2))) else (some false)) = some r := h
 clear h
 by_cases c4 : a0 ≥ a1
 ·rw [if_pos c4] at H
  have c4b0 : decide (a1 ≤ a0) = true := decide_eq_true c4
  clear c4
  obtain rfl := Option.some.inj H
  go_enter Try.func21, Try.ntmps21
  go_wp2
  go_ret
  exact ⟨by first | rfl | (simp; done) | (simp [*]; done), by repeat (first | exact Drawn0.refl _ | apply Drawn0.step)⟩
 rw [if_neg c4] at H
 have c4b0 : decide (a1 ≤ a0) = false := decide_eq_false c4
 clear c4
 obtain rfl := Option.some.inj H
 go_enter Try.func21, Try.ntmps21
 go_wp2
 go_ret
 exact ⟨by first | rfl | (simp; done) | (simp [*]; done), by repeat (first | exact Drawn0.refl _ | apply Drawn0.step)⟩

/-! ### config_numbers: function 19 -/
def config_numbers.f (a0_0 a0_1 a0_2 a0_3 a0_4 a0_5 : Int) (l0_6 : List (S63)) (l0_7 : List (S37)) : Option (Bool) := (config_in.f a0_0 4 50).bind fun t102 => (if t102 = true then ((config_in.f a0_1 1 10000).bind fun t103 => (if t103 = true then ((config_in.f a0_2 1 50).bind fun t104 => (if t104 = true then ((config_in.f a0_3 0 3).bind fun t105 => (if t105 = true then ((config_in.f a0_4 1 65535).bind fun t106 => (if t106 = true then ((config_in.f a0_5 0 31).bind fun t107 => (some t107)) else (some false))) else (some false))) else (some false))) else (some false))) else (some false))
set_option maxHeartbeats 8000000 in
set_option maxRecDepth 100000 in
theorem config_numbers.calls (a0_0 a0_1 a0_2 a0_3 a0_4 a0_5 : Int) (A0_6 : Option Addr) (c0_6 : Nat) (l0_6 : List (S63)) (A0_7 : Option Addr) (c0_7 : Nat) (l0_7 : List (S37)) (r : Bool) (w : World) (hr0_6 : Kd.C k63 w A0_6 l0_6.length l0_6) (hc0_6 : l0_6.length ≤ c0_6) (hr0_7 : Kd.C k37 w A0_7 l0_7.length l0_7) (hc0_7 : l0_7.length ≤ c0_7) (h : config_numbers.f a0_0 a0_1 a0_2 a0_3 a0_4 a0_5 l0_6 l0_7 = some r) :
  Calls Try.prog 19 #[.agg #[.int .i64 a0_0, .int .i64 a0_1, .int .i64 a0_2, .int .i64 a0_3, .int .i64 a0_4, .int .i64 a0_5, .slice A0_6 l0_6.length c0_6, .slice A0_7 l0_7.length c0_7]] w fun e w' => e = .returned (.bool r) ∧ Below w.heap.size w w' := by
 have hu25 := Try.underlying25
 have HR0_6 := Aside0.mk hr0_6
 have HC0_6 := Aside0.mk hc0_6
 clear hr0_6 hc0_6
 have HR0_7 := Aside0.mk hr0_7
 have HC0_7 := Aside0.mk hc0_7
 clear hr0_7 hc0_7
 have HB := Aside0.mk (Below.refl w.heap.size w)
 have H : ((config_in.f a0_0 4 50).bind fun t102 => (if t102 = true then ((config_in.f a0_1 1 10000).bind fun t103 => (if t103 = true then ((config_in.f a0_2 1 50).bind fun t104 => (if t104 = true then ((config_in.f a0_3 0 3).bind fun t105 => (if t105 = true then ((config_in.f a0_4 1 65535).bind fun t106 => (if t106 = true then ((config_in.f a0_5 0 31).bind fun t107 => (some t107)) else (some false))) else (some false))) else (some false))) else (some false))) else (some false))) = some r := h
 clear h
 replace H := Option.bind_eq_some_iff.mp H
 obtain ⟨t102, A20, H⟩ := H
 replace H : (if t102 = true then ((config_in.f a0_1 1 10000).bind fun t103 => (if t103 = true then ((config_in.f a0_2 1 50).bind fun t104 => (if t104 = true then ((config_in.f a0_3 0 3).bind fun t105 => (if t105 = true then ((config_in.f a0_4 1 65535).bind fun t106 => (if t106 = true then ((config_in.f a0_5 0 31).bind fun t107 => (some t107)) else (some false))) else (some false))) else (some false))) else (some false))) else (some false)) = some r := H
 have A2 := Aside0.mk A20
 clear A20
 by_cases c3 : t102 = true
 case neg =>
  replace c3 := Bool.eq_false_iff.mpr c3
  subst c3
  rw [if_neg (show ¬ (false = true) by decide)] at H
  obtain rfl := Option.some.inj H
  go_enter Try.func19, Try.ntmps19
  go_wp2_with (first | ((with_reducible refine gate_dst (N := 1) rfl ?_); refine boxK (N := 1) (#[.int .i64 a0_0, .int .i64 a0_1, .int .i64 a0_2, .int .i64 a0_3, .int .i64 a0_4, .int .i64 a0_5, .slice A0_6 l0_6.length c0_6, .slice A0_7 l0_7.length c0_7]) 25 ?_; intro gb101 hg w23 hbox hb; have BK101 := Aside0.mk (hbox); have GW101 := sG hg HB; have GE101 := sG hg HB; replace HB := sB HB hb; clear hb hbox hg; have z24 := bk8 BK101) | ((with_reducible refine gate_callee (f := 21) rfl ?_); refine goesK (some 5) Try.func21 #[.int .i64 a0_0, .int .i64 4, .int .i64 50] ?_; (with_reducible refine (config_in.calls a0_0 4 50 false _ A2.out).mono ?_); rintro e w' ⟨rfl, ⟨nd, rfl⟩⟩; refine ⟨_, rfl, ?_⟩))
  go_ret
  exact sEnd HB
 subst c3
 rw [if_pos rfl] at H
 replace H := Option.bind_eq_some_iff.mp H
 obtain ⟨t103, A40, H⟩ := H
 replace H : (if t103 = true then ((config_in.f a0_2 1 50).bind fun t104 => (if t104 = true then ((config_in.f a0_3 0 3).bind fun t105 => (if t105 = true then ((config_in.f a0_4 1 65535).bind fun t106 => (if t106 = true then ((config_in.f a0_5 0 31).bind fun t107 => (some t107)) else (some false))) else (some false))) else (some false))) else (some false)) = some r := H
 have A4 := Aside0.mk A40
 clear A40
 by_cases c5 : t103 = true
 case neg =>
  replace c5 := Bool.eq_false_iff.mpr c5
  subst c5
  rw [if_neg (show ¬ (false = true) by decide)] at H
  obtain rfl := Option.some.inj H
  go_enter Try.func19, Try.ntmps19
  go_wp2_with (first | ((with_reducible refine gate_dst (N := 1) rfl ?_); refine boxK (N := 1) (#[.int .i64 a0_0, .int .i64 a0_1, .int .i64 a0_2, .int .i64 a0_3, .int .i64 a0_4, .int .i64 a0_5, .slice A0_6 l0_6.length c0_6, .slice A0_7 l0_7.length c0_7]) 25 ?_; intro gb101 hg w21 hbox hb; have BK101 := Aside0.mk (hbox); have GW101 := sG hg HB; have GE101 := sG hg HB; replace HB := sB HB hb; clear hb hbox hg; have z22 := bk8 BK101) | ((with_reducible refine gate_callee (f := 21) rfl ?_); refine goesK (some 5) Try.func21 #[.int .i64 a0_0, .int .i64 4, .int .i64 50] ?_; (with_reducible refine (config_in.calls a0_0 4 50 true _ A2.out).mono ?_); rintro e w' ⟨rfl, ⟨nd, rfl⟩⟩; refine ⟨_, rfl, ?_⟩) | (go_at_call 21; (with_reducible refine (config_in.calls a0_1 1 10000 false _ A4.out).mono ?_); rintro e w' ⟨rfl, ⟨nd, rfl⟩⟩))
  go_ret
  exact sEnd HB
 subst c5
 rw [if_pos rfl] at H
 replace H := Option.bind_eq_some_iff.mp H
 obtain ⟨t104, A60, H⟩ := H
 replace H : (if t104 = true then ((config_in.f a0_3 0 3).bind fun t105 => (if t105 = true then ((config_in.f a0_4 1 65535).bind fun t106 => (if t106 = true then ((config_in.f a0_5 0 31).bind fun t107 => (some t107)) else (some false))) else (some false))) else (some false)) = some r := H
 have A6 := Aside0.mk A60
 clear A60
 by_cases c7 : t104 = true
 case neg =>
  replace c7 := Bool.eq_false_iff.mpr c7
  subst c7
  rw [if_neg (show ¬ (false = true) by decide)] at H
  obtain rfl := Option.some.inj H
  go_enter Try.func19, Try.ntmps19
  go_wp2_with (first | ((with_reducible refine gate_dst (N := 1) rfl ?_); refine boxK (N := 1) (#[.int .i64 a0_0, .int .i64 a0_1, .int .i64 a0_2, .int .i64 a0_3, .int .i64 a0_4, .int .i64 a0_5, .slice A0_6 l0_6.length c0_6, .slice A0_7 l0_7.length c0_7]) 25 ?_; intro gb101 hg w19 hbox hb; have BK101 := Aside0.mk (hbox); have GW101 := sG hg HB; have GE101 := sG hg HB; replace HB := sB HB hb; clear hb hbox hg; have z20 := bk8 BK101) | ((with_reducible refine gate_callee (f := 21) rfl ?_); refine goesK (some 5) Try.func21 #[.int .i64 a0_0, .int .i64 4, .int .i64 50] ?_; (with_reducible refine (config_in.calls a0_0 4 50 true _ A2.out).mono ?_); rintro e w' ⟨rfl, ⟨nd, rfl⟩⟩; refine ⟨_, rfl, ?_⟩) | (go_at_call 21; (with_reducible refine (config_in.calls a0_1 1 10000 true _ A4.out).mono ?_); rintro e w' ⟨rfl, ⟨nd, rfl⟩⟩) | (go_at_call 21; (with_reducible refine (config_in.calls a0_2 1 50 false _ A6.out).mono ?_); rintro e w' ⟨rfl, ⟨nd, rfl⟩⟩))
  go_ret
  exact sEnd HB
 subst c7
 rw [if_pos rfl] at H
 replace H := Option.bind_eq_some_iff.mp H
 obtain ⟨t105, A80, H⟩ := H
 replace H : (if t105 = true then ((config_in.f a0_4 1 65535).bind fun t106 => (if t106 = true then ((config_in.f a0_5 0 31).bind fun t107 => (some t107)) else (some false))) else (some false)) = some r := H
 have A8 := Aside0.mk A80
 clear A80
 by_cases c9 : t105 = true
 case neg =>
  replace c9 := Bool.eq_false_iff.mpr c9
  subst c9
  rw [if_neg (show ¬ (false = true) by decide)] at H
  obtain rfl := Option.some.inj H
  go_enter Try.func19, Try.ntmps19
  go_wp2_with (first | ((with_reducible refine gate_dst (N := 1) rfl ?_); refine boxK (N := 1) (#[.int .i64 a0_0, .int .i64 a0_1, .int .i64 a0_2, .int .i64 a0_3, .int .i64 a0_4, .int .i64 a0_5, .slice A0_6 l0_6.length c0_6, .slice A0_7 l0_7.length c0_7]) 25 ?_; intro gb101 hg w17 hbox hb; have BK101 := Aside0.mk (hbox); have GW101 := sG hg HB; have GE101 := sG hg HB; replace HB := sB HB hb; clear hb hbox hg; have z18 := bk8 BK101) | ((with_reducible refine gate_callee (f := 21) rfl ?_); refine goesK (some 5) Try.func21 #[.int .i64 a0_0, .int .i64 4, .int .i64 50] ?_; (with_reducible refine (config_in.calls a0_0 4 50 true _ A2.out).mono ?_); rintro e w' ⟨rfl, ⟨nd, rfl⟩⟩; refine ⟨_, rfl, ?_⟩) | (go_at_call 21; (with_reducible refine (config_in.calls a0_1 1 10000 true _ A4.out).mono ?_); rintro e w' ⟨rfl, ⟨nd, rfl⟩⟩) | (go_at_call 21; (with_reducible refine (config_in.calls a0_2 1 50 true _ A6.out).mono ?_); rintro e w' ⟨rfl, ⟨nd, rfl⟩⟩) | (go_at_call 21; (with_reducible refine (config_in.calls a0_3 0 3 false _ A8.out).mono ?_); rintro e w' ⟨rfl, ⟨nd, rfl⟩⟩))
  go_ret
  exact sEnd HB
 subst c9
 rw [if_pos rfl] at H
 replace H := Option.bind_eq_some_iff.mp H
 obtain ⟨t106, A100, H⟩ := H
 replace H : (if t106 = true then ((config_in.f a0_5 0 31).bind fun t107 => (some t107)) else (some false)) = some r := H
 have A10 := Aside0.mk A100
 clear A100
 by_cases c11 : t106 = true
 case neg =>
  replace c11 := Bool.eq_false_iff.mpr c11
  subst c11
  rw [if_neg (show ¬ (false = true) by decide)] at H
  obtain rfl := Option.some.inj H
  go_enter Try.func19, Try.ntmps19
  go_wp2_with (first | ((with_reducible refine gate_dst (N := 1) rfl ?_); refine boxK (N := 1) (#[.int .i64 a0_0, .int .i64 a0_1, .int .i64 a0_2, .int .i64 a0_3, .int .i64 a0_4, .int .i64 a0_5, .slice A0_6 l0_6.length c0_6, .slice A0_7 l0_7.length c0_7]) 25 ?_; intro gb101 hg w15 hbox hb; have BK101 := Aside0.mk (hbox); have GW101 := sG hg HB; have GE101 := sG hg HB; replace HB := sB HB hb; clear hb hbox hg; have z16 := bk8 BK101) | ((with_reducible refine gate_callee (f := 21) rfl ?_); refine goesK (some 5) Try.func21 #[.int .i64 a0_0, .int .i64 4, .int .i64 50] ?_; (with_reducible refine (config_in.calls a0_0 4 50 true _ A2.out).mono ?_); rintro e w' ⟨rfl, ⟨nd, rfl⟩⟩; refine ⟨_, rfl, ?_⟩) | (go_at_call 21; (with_reducible refine (config_in.calls a0_1 1 10000 true _ A4.out).mono ?_); rintro e w' ⟨rfl, ⟨nd, rfl⟩⟩) | (go_at_call 21; (with_reducible refine (config_in.calls a0_2 1 50 true _ A6.out).mono ?_); rintro e w' ⟨rfl, ⟨nd, rfl⟩⟩) | (go_at_call 21; (with_reducible refine (config_in.calls a0_3 0 3 true _ A8.out).mono ?_); rintro e w' ⟨rfl, ⟨nd, rfl⟩⟩) | (go_at_call 21; (with_reducible refine (config_in.calls a0_4 1 65535 false _ A10.out).mono ?_); rintro e w' ⟨rfl, ⟨nd, rfl⟩⟩))
  go_ret
  exact sEnd HB
 subst c11
 rw [if_pos rfl] at H
 replace H := Option.bind_eq_some_iff.mp H
 obtain ⟨t107, A120, H⟩ := H
 replace H : (some t107) = some r := H
 have A12 := Aside0.mk A120
 clear A120
 obtain rfl := Option.some.inj H
 go_enter Try.func19, Try.ntmps19
 go_wp2_with (first | ((with_reducible refine gate_dst (N := 1) rfl ?_); refine boxK (N := 1) (#[.int .i64 a0_0, .int .i64 a0_1, .int .i64 a0_2, .int .i64 a0_3, .int .i64 a0_4, .int .i64 a0_5, .slice A0_6 l0_6.length c0_6, .slice A0_7 l0_7.length c0_7]) 25 ?_; intro gb101 hg w13 hbox hb; have BK101 := Aside0.mk (hbox); have GW101 := sG hg HB; have GE101 := sG hg HB; replace HB := sB HB hb; clear hb hbox hg; have z14 := bk8 BK101) | ((with_reducible refine gate_callee (f := 21) rfl ?_); refine goesK (some 5) Try.func21 #[.int .i64 a0_0, .int .i64 4, .int .i64 50] ?_; (with_reducible refine (config_in.calls a0_0 4 50 true _ A2.out).mono ?_); rintro e w' ⟨rfl, ⟨nd, rfl⟩⟩; refine ⟨_, rfl, ?_⟩) | (go_at_call 21; (with_reducible refine (config_in.calls a0_1 1 10000 true _ A4.out).mono ?_); rintro e w' ⟨rfl, ⟨nd, rfl⟩⟩) | (go_at_call 21; (with_reducible refine (config_in.calls a0_2 1 50 true _ A6.out).mono ?_); rintro e w' ⟨rfl, ⟨nd, rfl⟩⟩) | (go_at_call 21; (with_reducible refine (config_in.calls a0_3 0 3 true _ A8.out).mono ?_); rintro e w' ⟨rfl, ⟨nd, rfl⟩⟩) | (go_at_call 21; (with_reducible refine (config_in.calls a0_4 1 65535 true _ A10.out).mono ?_); rintro e w' ⟨rfl, ⟨nd, rfl⟩⟩) | (go_at_call 21; (with_reducible refine (config_in.calls a0_5 0 31 t107 _ A12.out).mono ?_); rintro e w' ⟨rfl, ⟨nd, rfl⟩⟩))
 go_ret
 exact sEnd HB

/-! ### blocks_Parts: function 48 -/
def blocks_Parts.f (a0 : Int) : Option (Int) := if a0 < 1 then (some 0) else (if a0 > 64 then (some 0) else (some (wrap64 (Int.tdiv (wrap64 ((wrap64 (a0 + 16)) - 1)) 16))))
set_option maxHeartbeats 8000000 in
set_option maxRecDepth 100000 in
theorem blocks_Parts.calls (a0 r : Int) (w : World) (h : blocks_Parts.f a0 = some r) :
  Calls Try.prog 48 #[.int .i64 a0] w fun e w' => e = .returned (.int .i64 r) ∧ Drawn0 w w' := by
 have H : (if a0 < 1 then (some 0) else (if a0 > 64 then (some 0) else (some (wrap64 (Int.tdiv (wrap64 ((wrap64 (a0 + 16)) - 1)) 16))))) = some r := h
 clear h
 by_cases c2 : a0 < 1
 ·rw [if_pos c2] at H
  have c2b0 : decide (a0 < 1) = true := decide_eq_true c2
  clear c2
  obtain rfl := Option.some.inj H
  go_enter Try.func48, Try.ntmps48
  go_wp2
  go_ret
  exact ⟨by first | rfl | (simp; done) | (simp [*]; done), by repeat (first | exact Drawn0.refl _ | apply Drawn0.step)⟩
 rw [if_neg c2] at H
 have c2b0 : decide (a0 < 1) = false := decide_eq_false c2
 clear c2
 by_cases c3 : a0 > 64
 ·rw [if_pos c3] at H
  have c3b0 : decide (64 < a0) = true := decide_eq_true c3
  clear c3
  obtain rfl := Option.some.inj H
  go_enter Try.func48, Try.ntmps48
  go_wp2
  go_ret
  exact ⟨by first | rfl | (simp; done) | (simp [*]; done), by repeat (first | exact Drawn0.refl _ | apply Drawn0.step)⟩
 rw [if_neg c3] at H
 have c3b0 : decide (64 < a0) = false := decide_eq_false c3
 clear c3
 obtain rfl := Option.some.inj H
 go_enter Try.func48, Try.ntmps48
 go_wp2
 go_ret
 exact ⟨by first | rfl | (simp; done) | (simp [*]; done), by repeat (first | exact Drawn0.refl _ | apply Drawn0.step)⟩

/-! ### blocks_right: function 35 -/
def blocks_right.f (a0_0 a0_1 a0_2 : Int) (a0_3 : Bool) : Option (Bool) := if a0_0 ≥ 0 then (if a0_0 < 16 then (if a0_1 ≥ 0 then (if a0_1 < 32 then ((blocks_Parts.f a0_2).bind fun t109 => (some (decide (t109 > 0)))) else (some false)) else (some false)) else (some false)) else (some false)
set_option maxHeartbeats 8000000 in
set_option maxRecDepth 100000 in
theorem blocks_right.calls (a0_0 a0_1 a0_2 : Int) (a0_3 r : Bool) (w : World) (h : blocks_right.f a0_0 a0_1 a0_2 a0_3 = some r) :
  Calls Try.prog 35 #[.agg #[.int .i64 a0_0, .int .i64 a0_1, .int .i64 a0_2, .bool a0_3]] w fun e w' => e = .returned (.bool r) ∧ Below w.heap.size w w' := by
 have hu63 := Try.underlying63
 have HB := Aside0.mk (Below.refl w.heap.size w)
 have H : (if a0_0 ≥ 0 then (if a0_0 < 16 then (if a0_1 ≥ 0 then (if a0_1 < 32 then ((blocks_Parts.f a0_2).bind fun t109 => (some (decide (t109 > 0)))) else (some false)) else (some false)) else (some false)) else (some false)) = some r := h
 clear h
 by_cases c2 : a0_0 ≥ 0
 case neg =>
  rw [if_neg c2] at H
  have c2b0 : decide (0 ≤ a0_0) = false := decide_eq_false c2
  clear c2
  obtain rfl := Option.some.inj H
  go_enter Try.func35, Try.ntmps35
  go_wp2_with (first | ((with_reducible refine gate_dst (N := 1) rfl ?_); refine boxK (N := 1) (#[.int .i64 a0_0, .int .i64 a0_1, .int .i64 a0_2, .bool a0_3]) 63 ?_; intro gb108 hg w15 hbox hb; have BK108 := Aside0.mk (hbox); have GW108 := sG hg HB; have GE108 := sG hg HB; replace HB := sB HB hb; clear hb hbox hg; have z16 := bk4 BK108))
  go_ret
  exact sEnd HB
 rw [if_pos c2] at H
 have c2b0 : decide (0 ≤ a0_0) = true := decide_eq_true c2
 clear c2
 by_cases c3 : a0_0 < 16
 case neg =>
  rw [if_neg c3] at H
  have c3b0 : decide (a0_0 < 16) = false := decide_eq_false c3
  clear c3
  obtain rfl := Option.some.inj H
  go_enter Try.func35, Try.ntmps35
  go_wp2_with (first | ((with_reducible refine gate_dst (N := 1) rfl ?_); refine boxK (N := 1) (#[.int .i64 a0_0, .int .i64 a0_1, .int .i64 a0_2, .bool a0_3]) 63 ?_; intro gb108 hg w13 hbox hb; have BK108 := Aside0.mk (hbox); have GW108 := sG hg HB; have GE108 := sG hg HB; replace HB := sB HB hb; clear hb hbox hg; have z14 := bk4 BK108))
  go_ret
  exact sEnd HB
 rw [if_pos c3] at H
 have c3b0 : decide (a0_0 < 16) = true := decide_eq_true c3
 clear c3
 by_cases c4 : a0_1 ≥ 0
 case neg =>
  rw [if_neg c4] at H
  have c4b0 : decide (0 ≤ a0_1) = false := decide_eq_false c4
  clear c4
  obtain rfl := Option.some.inj H
  go_enter Try.func35, Try.ntmps35
  go_wp2_with (first | ((with_reducible refine gate_dst (N := 1) rfl ?_); refine boxK (N := 1) (#[.int .i64 a0_0, .int .i64 a0_1, .int .i64 a0_2, .bool a0_3]) 63 ?_; intro gb108 hg w11 hbox hb; have BK108 := Aside0.mk (hbox); have GW108 := sG hg HB; have GE108 := sG hg HB; replace HB := sB HB hb; clear hb hbox hg; have z12 := bk4 BK108))
  go_ret
  exact sEnd HB
 rw [if_pos c4] at H
 have c4b0 : decide (0 ≤ a0_1) = true := decide_eq_true c4
 clear c4
 by_cases c5 : a0_1 < 32
 case neg =>
  rw [if_neg c5] at H
  have c5b0 : decide (a0_1 < 32) = false := decide_eq_false c5
  clear c5
  obtain rfl := Option.some.inj H
  go_enter Try.func35, Try.ntmps35
  go_wp2_with (first | ((with_reducible refine gate_dst (N := 1) rfl ?_); refine boxK (N := 1) (#[.int .i64 a0_0, .int .i64 a0_1, .int .i64 a0_2, .bool a0_3]) 63 ?_; intro gb108 hg w9 hbox hb; have BK108 := Aside0.mk (hbox); have GW108 := sG hg HB; have GE108 := sG hg HB; replace HB := sB HB hb; clear hb hbox hg; have z10 := bk4 BK108))
  go_ret
  exact sEnd HB
 rw [if_pos c5] at H
 have c5b0 : decide (a0_1 < 32) = true := decide_eq_true c5
 clear c5
 replace H := Option.bind_eq_some_iff.mp H
 obtain ⟨t109, A60, H⟩ := H
 replace H : (some (decide (t109 > 0))) = some r := H
 have A6 := Aside0.mk A60
 clear A60
 obtain rfl := Option.some.inj H
 go_enter Try.func35, Try.ntmps35
 go_wp2_with (first | ((with_reducible refine gate_dst (N := 1) rfl ?_); refine boxK (N := 1) (#[.int .i64 a0_0, .int .i64 a0_1, .int .i64 a0_2, .bool a0_3]) 63 ?_; intro gb108 hg w7 hbox hb; have BK108 := Aside0.mk (hbox); have GW108 := sG hg HB; have GE108 := sG hg HB; replace HB := sB HB hb; clear hb hbox hg; have z8 := bk4 BK108) | (go_at_call 48; (with_reducible refine (blocks_Parts.calls a0_2 t109 _ A6.out).mono ?_); rintro e w' ⟨rfl, ⟨nd, rfl⟩⟩))
 go_ret
 exact sEnd HB

/-! ### blocks_place: function 36 -/
theorem pred50 (a : Int) (B : Nat) (w : World) (hB : B < w.heap.size) (hcell : w.cell? ⟨B, 0, none⟩ = some (.int .i64 a)) :
  PredB k63 50 #[.pointer (some ⟨B, 0, none⟩)] (fun x => x.f0 == a) w := fun W x cs hb hK => by
 obtain rfl := k63_open hK
 have hc : W.cell? ⟨B, 0, none⟩ = some (.int .i64 a) := (hb.cell (p := ⟨B, 0, none⟩) hB).trans hcell
 have hBW : B < W.heap.size := Nat.lt_of_lt_of_le hB hb.size
 have hne : B ≠ W.heap.size := by omega
 show Calls Try.prog 50 #[.agg #[.int .i64 x.f0, .int .i64 x.f1, .int .i64 x.f2, .bool x.f3], .pointer (some ⟨B, 0, none⟩)] W _
 go_enter Try.func50, Try.ntmps50
 go_wp2
 all_goals (go_ret; exact ⟨by simp_all, (Below.refl _ W).alloc (Nat.le_refl _) _⟩)
def blocks_place.f (l0 : List S63) (a1 : Int) : Option Int := some (firstP (fun x => x.f0 == a1) l0)
instance : Inhabited S63 := ⟨z63⟩
set_option maxHeartbeats 1000000 in
theorem blocks_place.calls (A0 : Option Addr) (c0 : Nat) (l0 : List S63) (a1 r : Int) (w : World) (hr0 : Kd.C k63 w A0 l0.length l0) (hc0 : l0.length ≤ c0) (h : blocks_place.f l0 a1 = some r) :
  Calls Try.prog 36 #[.slice A0 l0.length c0, .int .i64 a1] w fun e w' => e = .returned (.int .i64 r) ∧ Below w.heap.size w w' := by
 obtain rfl : firstP (fun x => x.f0 == a1) l0 = r := Option.some.inj h
 clear h
 have eg : ∀ args w, (callFunc 50 args).run Try.prog w = .ok (.enter 50 args) w := enters_of Try.func50 (by kernel_rfl) rfl
 have hcon := ix_block k63 rfl (fun x => x.f0 == a1) 50 #[.pointer (some ⟨w.heap.size, 0, none⟩)] eg A0 c0 l0 (w.alloc (.cells #[.int .i64 a1] 3))
  (pred50 a1 w.heap.size _ (by simp) (by simp)) (Kd.C_below hr0 ((Below.refl _ w).alloc (Nat.le_refl _) _)) hc0
 clear hr0 hc0
 generalize firstP (fun x => x.f0 == a1) l0 = r at hcon ⊢
 generalize l0.length = n at hcon ⊢
 go_enter Try.func36, Try.ntmps36
 go_wp2_with (go_at_call 49; refine hcon.mono ?_; rintro e w' ⟨rfl, hb'⟩)
 go_ret
 exact ⟨rfl, ((Below.refl _ w).alloc (Nat.le_refl _) _).trans (hb'.mono (by simp))⟩

/-! ### blocks_Check: function 20 -/
def blocks_Check.l0 : Nat → List (S63) → List (S63) → Int → Int → Option (Int × Int)
 | 0, _, _, _, _ => none
 | k + 1, x0, x9, x10, x11 => if x11 < x10 then (if 0 ≤ x11 then (if x11 < (x9.length : Int) then ((blocks_right.f ((rd_T63 x9 x11).f0) ((rd_T63 x9 x11).f1) ((rd_T63 x9 x11).f2) ((rd_T63 x9 x11).f3)).bind fun t112 => (if t112 = true then ((blocks_place.f x0 ((rd_T63 x9 x11).f0)).bind fun t113 => (if t113 < x11 then (some (14, x11)) else (blocks_Check.l0 k x0 x9 x10 (wrap64 (x11 + 1))))) else (some (3, x11)))) else (none)) else (none)) else (some (0, 0))
def blocks_Check.f (k : Nat) (l0 : List (S63)) : Option (Int × Int) := if (l0.length : Int) > 16 then (some (2, 16)) else (blocks_Check.l0 k l0 l0 (l0.length : Int) 0)
theorem blocks_Check.mono_l : ∀ k, (∀ y0 y1 y2 y3, LeO (blocks_Check.l0 k y0 y1 y2 y3) (blocks_Check.l0 (k + 1) y0 y1 y2 y3))
 | 0 => fun _ _ _ _ r h => by simp [blocks_Check.l0] at h
 | k + 1 => by
  have ih0 := blocks_Check.mono_l k
  ·intro y0 y1 y2 y3
   unfold blocks_Check.l0
   repeat' first
   | (with_reducible exact ih0 _ _ _ _)
   | (with_reducible exact LeO.refl _)
   | (with_reducible exact LeO.none _)
   | (with_reducible refine LeO.ite ?_ ?_)
   | (with_reducible refine LeO.bind ?_ (fun _ => ?_))
   | exact ih0 _ _ _ _
   | exact LeO.none _
   | refine LeO.ite ?_ ?_
   | refine LeO.bind ?_ (fun _ => ?_)
theorem blocks_Check.mono : ∀ a0 k, LeO (blocks_Check.f k a0) (blocks_Check.f (k + 1) a0) := by
 intro a0 k
 have ih0 := blocks_Check.mono_l k
 unfold blocks_Check.f
 repeat' first
   | (with_reducible exact ih0 _ _ _ _)
   | (with_reducible exact LeO.refl _)
   | (with_reducible exact LeO.none _)
   | (with_reducible refine LeO.ite ?_ ?_)
   | (with_reducible refine LeO.bind ?_ (fun _ => ?_))
   | exact ih0 _ _ _ _
   | exact LeO.none _
   | refine LeO.ite ?_ ?_
   | refine LeO.bind ?_ (fun _ => ?_)
set_option maxHeartbeats 8000000 in
set_option maxRecDepth 100000 in
theorem blocks_Check.calls (k : Nat) (A0 : Option Addr) (c0 : Nat) (l0 : List (S63)) (r1 r2 : Int) (w : World) (hr0 : Kd.C k63 w A0 l0.length l0) (hc0 : l0.length ≤ c0) (h : blocks_Check.f k l0 = some (r1, r2)) :
  Calls Try.prog 20 #[.slice A0 l0.length c0] w fun e w' => e = .returned (.tuple #[.int .i64 r1, .int .i64 r2]) ∧ Below w.heap.size w w' := by
 have hu63 := Try.underlying63
 have HR0 := Aside0.mk hr0
 have HC0 := Aside0.mk hc0
 clear hr0 hc0
 have HB := Aside0.mk (Below.refl w.heap.size w)
 have H : (if (l0.length : Int) > 16 then (some (2, 16)) else (blocks_Check.l0 k l0 l0 (l0.length : Int) 0)) = some (r1, r2) := h
 clear h
 by_cases c2 : (l0.length : Int) > 16
 ·rw [if_pos c2] at H
  have c2b0 : decide (16 < (l0.length : Int)) = true := decide_eq_true c2
  have c2b1 : decide (16 < l0.length) = true := decide_eq_true (by omega)
  clear c2
  simp only [Option.some.injEq, Prod.mk.injEq] at H
  obtain ⟨rfl, rfl⟩ := H
  go_enter Try.func20, Try.ntmps20
  go_wp2
  go_ret2
  exact sEnd HB
 rw [if_neg c2] at H
 have c2b0 : decide (16 < (l0.length : Int)) = false := decide_eq_false c2
 have c2b1 : decide (16 < l0.length) = false := decide_eq_false (by omega)
 clear c2
 have H' := Aside0.mk H
 clear H
 go_enter Try.func20, Try.ntmps20
 go_wp2
 go_loopg [11] k (fun kq v11 w' => ∃ (x11_1 : Int), v11 = .int .i64 x11_1 ∧ Aside0 (blocks_Check.l0 kq l0 l0 (l0.length : Int) x11_1 = some (r1, r2)) ∧ Aside0 (kq ≤ k) ∧ Aside0 (Below w.heap.size w w'))
 case atStart => exact ⟨(0), (by first | rfl | (simp; done) | (simp [*]; done)), H', ⟨Nat.le_refl _⟩, (sB0 HB)⟩
 clear H'
 (try clear c2); (try clear c2b0); (try clear c2b1)
 obtain ⟨x11_1, rfl, HA, HK1, HB⟩ := hrel
 cases gk with
 | zero => exact absurd HA.out (by simp [blocks_Check.l0])
 | succ k1 =>
  have H := HA.out
  clear HA
  simp only [blocks_Check.l0] at H
  by_cases c3 : x11_1 < (l0.length : Int)
  ·rw [if_pos c3] at H
   have c3b0 : decide (x11_1 < (l0.length : Int)) = true := decide_eq_true c3
   clear c3
   by_cases c4 : 0 ≤ x11_1
   ·rw [if_pos c4] at H
    have c4b0 : decide (0 ≤ x11_1) = true := decide_eq_true c4
    clear c4
    by_cases c5 : x11_1 < (l0.length : Int)
    ·rw [if_pos c5] at H
     have c5b0 : decide (x11_1 < (l0.length : Int)) = true := decide_eq_true c5
     clear c5
     replace H := Option.bind_eq_some_iff.mp H
     obtain ⟨t112, A60, H⟩ := H
     replace H : (if t112 = true then ((blocks_place.f l0 ((rd_T63 l0 x11_1).f0)).bind fun t113 => (if t113 < x11_1 then (some (14, x11_1)) else (blocks_Check.l0 k1 l0 l0 (l0.length : Int) (wrap64 (x11_1 + 1))))) else (some (3, x11_1))) = some (r1, r2) := H
     have A6 := Aside0.mk A60
     clear A60
     by_cases c7 : t112 = true
     ·subst c7
      rw [if_pos rfl] at H
      replace H := Option.bind_eq_some_iff.mp H
      obtain ⟨t113, A80, H⟩ := H
      replace H : (if t113 < x11_1 then (some (14, x11_1)) else (blocks_Check.l0 k1 l0 l0 (l0.length : Int) (wrap64 (x11_1 + 1)))) = some (r1, r2) := H
      have A8 := Aside0.mk A80
      clear A80
      by_cases c9 : t113 < x11_1
      ·rw [if_pos c9] at H
       have c9b0 : decide (t113 < x11_1) = true := decide_eq_true c9
       clear c9
       simp only [Option.some.injEq, Prod.mk.injEq] at H
       obtain ⟨rfl, rfl⟩ := H
       have p110 : 0 ≤ (x11_1 : Int) := of_decide_eq_true (by first | (with_reducible assumption) | assumption)
       have q110 : x11_1 < (l0.length : Int) := of_decide_eq_true (by first | (with_reducible assumption) | assumption)
       obtain ⟨ad110, e110, hx110_0, hx110_1, hx110_2, hx110_3⟩ := at_T63 HR0.out x11_1 p110 q110
       cases e110
       replace hx110_0 := (HB.out.cell (World.block_lt_of_cell? w _ hx110_0)).trans hx110_0
       replace hx110_1 := (HB.out.cell (World.block_lt_of_cell? w _ hx110_1)).trans hx110_1
       replace hx110_2 := (HB.out.cell (World.block_lt_of_cell? w _ hx110_2)).trans hx110_2
       replace hx110_3 := (HB.out.cell (World.block_lt_of_cell? w _ hx110_3)).trans hx110_3
       replace p110 := eq_true p110
       replace q110 := eq_true q110
       go_wp2_with (first | ((with_reducible refine gate_dst (N := 5) rfl ?_); refine boxK (N := 5) (#[.int .i64 0, .int .i64 0, .int .i64 0, .bool false]) 63 ?_; intro gb111 hg w10 hbox hb; have BK111 := Aside0.mk (hbox); have GW111 := sG hg HB; have GE111 := sG hg HB; replace HB := sB HB hb; clear hb hbox hg; have z11 := bk4 BK111) | ((with_reducible refine gate_callee (f := 35) rfl ?_); refine goesK (some 17) Try.func35 #[.agg #[.int .i64 ((rd_T63 l0 x11_1).f0), .int .i64 ((rd_T63 l0 x11_1).f1), .int .i64 ((rd_T63 l0 x11_1).f2), .bool ((rd_T63 l0 x11_1).f3)]] ?_; (with_reducible refine (blocks_right.calls ((rd_T63 l0 x11_1).f0) ((rd_T63 l0 x11_1).f1) ((rd_T63 l0 x11_1).f2) ((rd_T63 l0 x11_1).f3) true _ A6.out).mono ?_); rintro e w12 ⟨rfl, hb⟩; refine ⟨_, rfl, ?_⟩; replace BK111 := sKp (.cells #[.int .i64 ((rd_T63 l0 x11_1).f0), .int .i64 ((rd_T63 l0 x11_1).f1), .int .i64 ((rd_T63 l0 x11_1).f2), .bool ((rd_T63 l0 x11_1).f3)] 63 (0, 0)) BK111 hb; replace HB := sB HB hb; (try clear hb); have z13 := bk4 BK111) | ((with_reducible refine gate_callee (f := 36) rfl ?_); refine goesK (some 23) Try.func36 #[.slice (some ad110) l0.length c0, .int .i64 ((rd_T63 l0 x11_1).f0)] ?_; (with_reducible refine (blocks_place.calls _ _ l0 ((rd_T63 l0 x11_1).f0) t113 _ ?side1 ?side2 A8.out).mono ?_); (case side1 => exact sC HR0 HB); (case side2 => exact HC0.out); rintro e w14 ⟨rfl, hb⟩; refine ⟨_, rfl, ?_⟩; replace BK111 := sK BK111 hb; replace HB := sB HB hb; (try clear hb)))
       go_ret2
       exact sEnd HB
      ·rw [if_neg c9] at H
       have c9b0 : decide (t113 < x11_1) = false := decide_eq_false c9
       clear c9
       have H' := Aside0.mk H
       clear H
       have p110 : 0 ≤ (x11_1 : Int) := of_decide_eq_true (by first | (with_reducible assumption) | assumption)
       have q110 : x11_1 < (l0.length : Int) := of_decide_eq_true (by first | (with_reducible assumption) | assumption)
       obtain ⟨ad110, e110, hx110_0, hx110_1, hx110_2, hx110_3⟩ := at_T63 HR0.out x11_1 p110 q110
       cases e110
       replace hx110_0 := (HB.out.cell (World.block_lt_of_cell? w _ hx110_0)).trans hx110_0
       replace hx110_1 := (HB.out.cell (World.block_lt_of_cell? w _ hx110_1)).trans hx110_1
       replace hx110_2 := (HB.out.cell (World.block_lt_of_cell? w _ hx110_2)).trans hx110_2
       replace hx110_3 := (HB.out.cell (World.block_lt_of_cell? w _ hx110_3)).trans hx110_3
       replace p110 := eq_true p110
       replace q110 := eq_true q110
       go_wp2_with (first | ((with_reducible refine gate_dst (N := 5) rfl ?_); refine boxK (N := 5) (#[.int .i64 0, .int .i64 0, .int .i64 0, .bool false]) 63 ?_; intro gb111 hg w15 hbox hb; have BK111 := Aside0.mk (hbox); have GW111 := sG hg HB; have GE111 := sG hg HB; replace HB := sB HB hb; clear hb hbox hg; have z16 := bk4 BK111) | ((with_reducible refine gate_callee (f := 35) rfl ?_); refine goesK (some 17) Try.func35 #[.agg #[.int .i64 ((rd_T63 l0 x11_1).f0), .int .i64 ((rd_T63 l0 x11_1).f1), .int .i64 ((rd_T63 l0 x11_1).f2), .bool ((rd_T63 l0 x11_1).f3)]] ?_; (with_reducible refine (blocks_right.calls ((rd_T63 l0 x11_1).f0) ((rd_T63 l0 x11_1).f1) ((rd_T63 l0 x11_1).f2) ((rd_T63 l0 x11_1).f3) true _ A6.out).mono ?_); rintro e w17 ⟨rfl, hb⟩; refine ⟨_, rfl, ?_⟩; replace BK111 := sKp (.cells #[.int .i64 ((rd_T63 l0 x11_1).f0), .int .i64 ((rd_T63 l0 x11_1).f1), .int .i64 ((rd_T63 l0 x11_1).f2), .bool ((rd_T63 l0 x11_1).f3)] 63 (0, 0)) BK111 hb; replace HB := sB HB hb; (try clear hb); have z18 := bk4 BK111) | ((with_reducible refine gate_callee (f := 36) rfl ?_); refine goesK (some 23) Try.func36 #[.slice (some ad110) l0.length c0, .int .i64 ((rd_T63 l0 x11_1).f0)] ?_; (with_reducible refine (blocks_place.calls _ _ l0 ((rd_T63 l0 x11_1).f0) t113 _ ?side1 ?side2 A8.out).mono ?_); (case side1 => exact sC HR0 HB); (case side2 => exact HC0.out); rintro e w19 ⟨rfl, hb⟩; refine ⟨_, rfl, ?_⟩; replace BK111 := sK BK111 hb; replace HB := sB HB hb; (try clear hb)))
       go_roundg k1
       case measure => have := HK1.out; omega
       case rel => exact ⟨(wrap64 (x11_1 + 1)), (by first | rfl | (simp; done) | (simp [*]; done)), H', ⟨by have := HK1.out; omega⟩, (sB0 HB)⟩
     ·replace c7 := Bool.eq_false_iff.mpr c7
      subst c7
      rw [if_neg (show ¬ (false = true) by decide)] at H
      simp only [Option.some.injEq, Prod.mk.injEq] at H
      obtain ⟨rfl, rfl⟩ := H
      have p110 : 0 ≤ (x11_1 : Int) := of_decide_eq_true (by first | (with_reducible assumption) | assumption)
      have q110 : x11_1 < (l0.length : Int) := of_decide_eq_true (by first | (with_reducible assumption) | assumption)
      obtain ⟨ad110, e110, hx110_0, hx110_1, hx110_2, hx110_3⟩ := at_T63 HR0.out x11_1 p110 q110
      cases e110
      replace hx110_0 := (HB.out.cell (World.block_lt_of_cell? w _ hx110_0)).trans hx110_0
      replace hx110_1 := (HB.out.cell (World.block_lt_of_cell? w _ hx110_1)).trans hx110_1
      replace hx110_2 := (HB.out.cell (World.block_lt_of_cell? w _ hx110_2)).trans hx110_2
      replace hx110_3 := (HB.out.cell (World.block_lt_of_cell? w _ hx110_3)).trans hx110_3
      replace p110 := eq_true p110
      replace q110 := eq_true q110
      go_wp2_with (first | ((with_reducible refine gate_dst (N := 5) rfl ?_); refine boxK (N := 5) (#[.int .i64 0, .int .i64 0, .int .i64 0, .bool false]) 63 ?_; intro gb111 hg w20 hbox hb; have BK111 := Aside0.mk (hbox); have GW111 := sG hg HB; have GE111 := sG hg HB; replace HB := sB HB hb; clear hb hbox hg; have z21 := bk4 BK111) | ((with_reducible refine gate_callee (f := 35) rfl ?_); refine goesK (some 17) Try.func35 #[.agg #[.int .i64 ((rd_T63 l0 x11_1).f0), .int .i64 ((rd_T63 l0 x11_1).f1), .int .i64 ((rd_T63 l0 x11_1).f2), .bool ((rd_T63 l0 x11_1).f3)]] ?_; (with_reducible refine (blocks_right.calls ((rd_T63 l0 x11_1).f0) ((rd_T63 l0 x11_1).f1) ((rd_T63 l0 x11_1).f2) ((rd_T63 l0 x11_1).f3) false _ A6.out).mono ?_); rintro e w22 ⟨rfl, hb⟩; refine ⟨_, rfl, ?_⟩; replace BK111 := sKp (.cells #[.int .i64 ((rd_T63 l0 x11_1).f0), .int .i64 ((rd_T63 l0 x11_1).f1), .int .i64 ((rd_T63 l0 x11_1).f2), .bool ((rd_T63 l0 x11_1).f3)] 63 (0, 0)) BK111 hb; replace HB := sB HB hb; (try clear hb)))
      go_ret2
      exact sEnd HB
    ·rw [if_neg c5] at H
     exact absurd H (by simp)
   ·rw [if_neg c4] at H
    exact absurd H (by simp)
  ·rw [if_neg c3] at H
   have c3b0 : decide (x11_1 < (l0.length : Int)) = false := decide_eq_false c3
   clear c3
   simp only [Option.some.injEq, Prod.mk.injEq] at H
   obtain ⟨rfl, rfl⟩ := H
   go_wp2
   go_ret2
   exact sEnd HB

/-! ### config_place: function 26 -/
theorem pred44 (a : Int) (B : Nat) (w : World) (hB : B < w.heap.size) (hcell : w.cell? ⟨B, 0, none⟩ = some (.int .i64 a)) :
  PredB k37 44 #[.pointer (some ⟨B, 0, none⟩)] (fun x => x.f0 == a) w := fun W x cs hb hK => by
 obtain ⟨A3, c3, A4, c4, A5, c5, rfl, -⟩ := k37_open hK
 clear hK
 have hc : W.cell? ⟨B, 0, none⟩ = some (.int .i64 a) := (hb.cell (p := ⟨B, 0, none⟩) hB).trans hcell
 have hBW : B < W.heap.size := Nat.lt_of_lt_of_le hB hb.size
 have hne : B ≠ W.heap.size := by omega
 show Calls Try.prog 44 #[.agg #[.int .i64 x.f0, .int .i64 x.f1, .int .i64 x.f2, .slice A3 x.f3.length c3, .slice A4 x.f4.length c4, .slice A5 x.f5.length c5], .pointer (some ⟨B, 0, none⟩)] W _
 go_enter Try.func44, Try.ntmps44
 go_wp2
 all_goals (go_ret; exact ⟨by simp_all, (Below.refl _ W).alloc (Nat.le_refl _) _⟩)
def config_place.f (a0_0 a0_1 a0_2 a0_3 a0_4 a0_5 : Int) (l0_6 : List S63) (l0_7 : List S37) (a1 : Int) : Option Int := some (firstP (fun x => x.f0 == a1) l0_7)
instance : Inhabited S37 := ⟨z37⟩
set_option maxHeartbeats 1000000 in
theorem config_place.calls (a0_0 a0_1 a0_2 a0_3 a0_4 a0_5 : Int) (A0_6 : Option Addr) (c0_6 : Nat) (l0_6 : List S63) (A0_7 : Option Addr) (c0_7 : Nat) (l0_7 : List S37) (a1 r : Int) (w : World) (hr0_6 : Kd.C k63 w A0_6 l0_6.length l0_6) (hc0_6 : l0_6.length ≤ c0_6) (hr0_7 : Kd.C k37 w A0_7 l0_7.length l0_7) (hc0_7 : l0_7.length ≤ c0_7) (h : config_place.f a0_0 a0_1 a0_2 a0_3 a0_4 a0_5 l0_6 l0_7 a1 = some r) :
  Calls Try.prog 26 #[.agg #[.int .i64 a0_0, .int .i64 a0_1, .int .i64 a0_2, .int .i64 a0_3, .int .i64 a0_4, .int .i64 a0_5, .slice A0_6 l0_6.length c0_6, .slice A0_7 l0_7.length c0_7], .int .i64 a1] w fun e w' => e = .returned (.int .i64 r) ∧ Below w.heap.size w w' := by
 obtain rfl : firstP (fun x => x.f0 == a1) l0_7 = r := Option.some.inj h
 clear h
 have eg : ∀ args w, (callFunc 44 args).run Try.prog w = .ok (.enter 44 args) w := enters_of Try.func44 (by kernel_rfl) rfl
 obtain ⟨w1, hw1⟩ : ∃ w1, w1 = (w.alloc (.cells #[.int .i64 a0_0, .int .i64 a0_1, .int .i64 a0_2, .int .i64 a0_3, .int .i64 a0_4, .int .i64 a0_5, .slice A0_6 l0_6.length c0_6, .slice A0_7 l0_7.length c0_7] 25)).alloc (.cells #[.int .i64 a1] 3) := ⟨_, rfl⟩
 have hB : Below w.heap.size w w1 := by
  subst hw1
  exact ((Below.refl _ w).alloc (Nat.le_refl _) _).alloc (by simp) _
 have hcon := ix_station k37 rfl (fun x => x.f0 == a1) 44 #[.pointer (some ⟨w.heap.size + 1, 0, none⟩)] eg A0_7 c0_7 l0_7 w1
  (pred44 a1 (w.heap.size + 1) _ (by subst hw1; simp) (by subst hw1; simp)) (Kd.C_below hr0_7 hB) hc0_7
 clear hr0_7 hc0_7 hr0_6 hc0_6
 generalize firstP (fun x => x.f0 == a1) l0_7 = r at hcon ⊢
 have hs : w.heap.size ≤ w1.heap.size := hB.size
 have HB : Aside (Below w.heap.size w w1) := hB
 clear hB
 subst hw1
 generalize l0_7.length = n at hcon ⊢
 generalize l0_6.length = m at hcon ⊢
 go_enter Try.func26, Try.ntmps26
 go_wp2_with (go_at_call 43; refine hcon.mono ?_; rintro e w' ⟨rfl, hb'⟩)
 go_ret
 exact ⟨rfl, (((Below.refl _ w).alloc (Nat.le_refl _) _).alloc (by simp) _).trans (hb'.mono (by simp; omega))⟩

/-! ### image_mask: function 52 -/
def image_mask.f (a0 a1 : Int) : Option (Int) := if a1 ≥ 64 then (if 0 ≤ a0 then (some (shl .u64 18446744073709551615 a0)) else (none)) else (if 0 ≤ a1 then (if 0 ≤ a0 then (some (shl .u64 (IntKind.u64.wrap ((shl .u64 1 a1) - 1)) a0)) else (none)) else (none))
set_option maxHeartbeats 8000000 in
set_option maxRecDepth 100000 in
theorem image_mask.calls (a0 a1 r : Int) (w : World) (h : image_mask.f a0 a1 = some r) :
  Calls Try.prog 52 #[.int .i64 a0, .int .i64 a1] w fun e w' => e = .returned (.int .u64 r) ∧ Drawn0 w w' := by
 have H : (if a1 ≥ 64 then (if 0 ≤ a0 then (some (shl .u64 18446744073709551615 a0)) else (none)) else (if 0 ≤ a1 then (if 0 ≤ a0 then (some (shl .u64 (IntKind.u64.wrap ((shl .u64 1 a1) - 1)) a0)) else (none)) else (none))) = some r := h
 clear h
 by_cases c3 : a1 ≥ 64
 ·rw [if_pos c3] at H
  have c3b0 : decide (64 ≤ a1) = true := decide_eq_true c3
  clear c3
  by_cases c4 : 0 ≤ a0
  case neg =>
   rw [if_neg c4] at H
   exact absurd H (by simp)
  rw [if_pos c4] at H
  have c4b0 := eq_true c4
  have c4b1 : decide (0 ≤ a0) = true := decide_eq_true c4
  clear c4
  obtain ⟨ji5, hji5⟩ : ∃ j_ : Int, (shl .u64 18446744073709551615 a0) = j_ := ⟨_, rfl⟩
  replace H : (some ji5) = some r := by first | (rw [hji5] at H; exact H) | (simp only [hji5] at H ⊢; exact H)
  have hji5_ : (IntKind.u64.wrap (18446744073709551615 * 2 ^ min a0.toNat 64)) = ji5 := hji5
  have hji5z : a0 ≤ 64 → (IntKind.u64.wrap (18446744073709551615 * 2 ^ a0.toNat)) = ji5 := shl_small hji5
  obtain rfl := Option.some.inj H
  go_enter Try.func52, Try.ntmps52
  go_wp2
  go_ret
  exact ⟨by first | rfl | (simp; done) | (simp only [← hji5] <;> (first | rfl | simp)) | (simp [*]; done), by repeat (first | exact Drawn0.refl _ | apply Drawn0.step)⟩
 rw [if_neg c3] at H
 have c3b0 : decide (64 ≤ a1) = false := decide_eq_false c3
 clear c3
 by_cases c6 : 0 ≤ a1
 case neg =>
  rw [if_neg c6] at H
  exact absurd H (by simp)
 rw [if_pos c6] at H
 have c6b0 := eq_true c6
 have c6b1 : decide (0 ≤ a1) = true := decide_eq_true c6
 clear c6
 obtain ⟨ji7, hji7⟩ : ∃ j_ : Int, (shl .u64 1 a1) = j_ := ⟨_, rfl⟩
 replace H : (if 0 ≤ a0 then (some (shl .u64 (IntKind.u64.wrap ((ji7) - 1)) a0)) else (none)) = some r := by first | (rw [hji7] at H; exact H) | (simp only [hji7] at H ⊢; exact H)
 have hji7_ : (IntKind.u64.wrap (1 * 2 ^ min a1.toNat 64)) = ji7 := hji7
 have hji7z : a1 ≤ 64 → (IntKind.u64.wrap (1 * 2 ^ a1.toNat)) = ji7 := shl_small hji7
 have hji7u : (IntKind.u64.wrap (2 ^ min a1.toNat 64)) = ji7 := by have h_ := hji7_; rw [Int.one_mul] at h_; exact h_
 have hji7v : a1 ≤ 64 → (IntKind.u64.wrap (2 ^ a1.toNat)) = ji7 := fun hle_ => by have h_ := hji7z hle_; rw [Int.one_mul] at h_; exact h_
 by_cases c8 : 0 ≤ a0
 case neg =>
  rw [if_neg c8] at H
  exact absurd H (by simp)
 rw [if_pos c8] at H
 have c8b0 := eq_true c8
 have c8b1 : decide (0 ≤ a0) = true := decide_eq_true c8
 clear c8
 obtain ⟨ji9, hji9⟩ : ∃ j_ : Int, (shl .u64 (IntKind.u64.wrap ((ji7) - 1)) a0) = j_ := ⟨_, rfl⟩
 replace H : (some ji9) = some r := by first | (rw [hji9] at H; exact H) | (simp only [hji9] at H ⊢; exact H)
 have hji9_ : (IntKind.u64.wrap ((IntKind.u64.wrap ((ji7) - 1)) * 2 ^ min a0.toNat 64)) = ji9 := hji9
 have hji9z : a0 ≤ 64 → (IntKind.u64.wrap ((IntKind.u64.wrap ((ji7) - 1)) * 2 ^ a0.toNat)) = ji9 := shl_small hji9
 obtain rfl := Option.some.inj H
 go_enter Try.func52, Try.ntmps52
 go_wp2
 go_ret
 exact ⟨by first | rfl | (simp; done) | (simp only [← hji7, ← hji9] <;> (first | rfl | simp)) | (simp [*]; done), by repeat (first | exact Drawn0.refl _ | apply Drawn0.step)⟩

/-! ### blocks_Find: function 33 -/
def blocks_Find.f (l0 : List (S63)) (a1 : Int) : Option (Int × Int × Int × Bool × Bool) := (blocks_place.f l0 a1).bind fun t115 => (if t115 < 0 then (some (0, 0, 0, false, false)) else (if 0 ≤ t115 then (if t115 < (l0.length : Int) then (some ((rd_T63 l0 t115).f0, (rd_T63 l0 t115).f1, (rd_T63 l0 t115).f2, (rd_T63 l0 t115).f3, true)) else (none)) else (none)))
set_option maxHeartbeats 8000000 in
set_option maxRecDepth 100000 in
theorem blocks_Find.calls (A0 : Option Addr) (c0 : Nat) (l0 : List (S63)) (a1 r1 r2 r3 : Int) (r4 r5 : Bool) (w : World) (hr0 : Kd.C k63 w A0 l0.length l0) (hc0 : l0.length ≤ c0) (h : blocks_Find.f l0 a1 = some (r1, r2, r3, r4, r5)) :
  Calls Try.prog 33 #[.slice A0 l0.length c0, .int .i64 a1] w fun e w' => e = .returned (.tuple #[.agg #[.int .i64 r1, .int .i64 r2, .int .i64 r3, .bool r4], .bool r5]) ∧ Below w.heap.size w w' := by
 have hu63 := Try.underlying63
 have HR0 := Aside0.mk hr0
 have HC0 := Aside0.mk hc0
 clear hr0 hc0
 have HB := Aside0.mk (Below.refl w.heap.size w)
 have H : ((blocks_place.f l0 a1).bind fun t115 => (if t115 < 0 then (some (0, 0, 0, false, false)) else (if 0 ≤ t115 then (if t115 < (l0.length : Int) then (some ((rd_T63 l0 t115).f0, (rd_T63 l0 t115).f1, (rd_T63 l0 t115).f2, (rd_T63 l0 t115).f3, true)) else (none)) else (none)))) = some (r1, r2, r3, r4, r5) := h
 clear h
 replace H := Option.bind_eq_some_iff.mp H
 obtain ⟨t115, A30, H⟩ := H
 replace H : (if t115 < 0 then (some (0, 0, 0, false, false)) else (if 0 ≤ t115 then (if t115 < (l0.length : Int) then (some ((rd_T63 l0 t115).f0, (rd_T63 l0 t115).f1, (rd_T63 l0 t115).f2, (rd_T63 l0 t115).f3, true)) else (none)) else (none))) = some (r1, r2, r3, r4, r5) := H
 have A3 := Aside0.mk A30
 clear A30
 by_cases c4 : t115 < 0
 ·rw [if_pos c4] at H
  have c4b0 : decide (t115 < 0) = true := decide_eq_true c4
  clear c4
  simp only [Option.some.injEq, Prod.mk.injEq] at H
  obtain ⟨rfl, rfl, rfl, rfl, rfl⟩ := H
  go_enter Try.func33, Try.ntmps33
  go_wp2_with (first | ((with_reducible refine gate_dst (N := 4) rfl ?_); refine boxK (N := 4) (#[.int .i64 0, .int .i64 0, .int .i64 0, .bool false]) 63 ?_; intro gb114 hg w5 hbox hb; have BK114 := Aside0.mk (hbox); have GW114 := sG hg HB; have GE114 := sG hg HB; replace HB := sB HB hb; clear hb hbox hg) | ((with_reducible refine gate_callee (f := 36) rfl ?_); refine goesK (some 9) Try.func36 #[.slice A0 l0.length c0, .int .i64 a1] ?_; (with_reducible refine (blocks_place.calls _ _ l0 a1 t115 _ ?side1 ?side2 A3.out).mono ?_); (case side1 => exact sC HR0 HB); (case side2 => exact HC0.out); rintro e w6 ⟨rfl, hb⟩; refine ⟨_, rfl, ?_⟩; replace BK114 := sK BK114 hb; replace HB := sB HB hb; (try clear hb); have z7 := bk4 BK114))
  refine bodyPost_ret (results_ct rfl _ _ gb114 63 #[.int .i64 0, .int .i64 0, .int .i64 0, .bool false] (0, 0) _ rfl (sKq BK114) Try.underlying63 rfl (by kernel_rfl)) rfl ?_
  exact sEnd HB
 rw [if_neg c4] at H
 have c4b0 : decide (t115 < 0) = false := decide_eq_false c4
 clear c4
 by_cases c8 : 0 ≤ t115
 case neg =>
  rw [if_neg c8] at H
  exact absurd H (by simp)
 rw [if_pos c8] at H
 have c8b0 : decide (0 ≤ t115) = true := decide_eq_true c8
 clear c8
 by_cases c9 : t115 < (l0.length : Int)
 case neg =>
  rw [if_neg c9] at H
  exact absurd H (by simp)
 rw [if_pos c9] at H
 have c9b0 : decide (t115 < (l0.length : Int)) = true := decide_eq_true c9
 clear c9
 simp only [Option.some.injEq, Prod.mk.injEq] at H
 obtain ⟨rfl, rfl, rfl, rfl, rfl⟩ := H
 go_enter Try.func33, Try.ntmps33
 go_wp2_with (first | ((with_reducible refine gate_dst (N := 4) rfl ?_); refine boxK (N := 4) (#[.int .i64 0, .int .i64 0, .int .i64 0, .bool false]) 63 ?_; intro gb114 hg w10 hbox hb; have BK114 := Aside0.mk (hbox); have GW114 := sG hg HB; have GE114 := sG hg HB; replace HB := sB HB hb; clear hb hbox hg) | ((with_reducible refine gate_callee (f := 36) rfl ?_); refine goesK (some 9) Try.func36 #[.slice A0 l0.length c0, .int .i64 a1] ?_; (with_reducible refine (blocks_place.calls _ _ l0 a1 t115 _ ?side1 ?side2 A3.out).mono ?_); (case side1 => exact sC HR0 HB); (case side2 => exact HC0.out); rintro e w11 ⟨rfl, hb⟩; refine ⟨_, rfl, ?_⟩; replace BK114 := sK BK114 hb; replace HB := sB HB hb; (try clear hb); have p116 : 0 ≤ (t115 : Int) := of_decide_eq_true (by first | (with_reducible assumption) | assumption); have q116 : t115 < (l0.length : Int) := of_decide_eq_true (by first | (with_reducible assumption) | assumption); obtain ⟨ad116, e116, hx116_0, hx116_1, hx116_2, hx116_3⟩ := at_T63 HR0.out t115 p116 q116; cases e116; replace hx116_0 := (HB.out.cell (World.block_lt_of_cell? w _ hx116_0)).trans hx116_0; replace hx116_1 := (HB.out.cell (World.block_lt_of_cell? w _ hx116_1)).trans hx116_1; replace hx116_2 := (HB.out.cell (World.block_lt_of_cell? w _ hx116_2)).trans hx116_2; replace hx116_3 := (HB.out.cell (World.block_lt_of_cell? w _ hx116_3)).trans hx116_3; replace p116 := eq_true p116; replace q116 := eq_true q116; have z12 := bk4 BK114))
 refine bodyPost_ret (results_ct rfl _ _ gb114 63 #[.int .i64 ((rd_T63 l0 t115).f0), .int .i64 ((rd_T63 l0 t115).f1), .int .i64 ((rd_T63 l0 t115).f2), .bool ((rd_T63 l0 t115).f3)] (0, 0) _ rfl (sKq BK114) Try.underlying63 rfl (by kernel_rfl)) rfl ?_
 exact sEnd HB

/-! ### image_spot: function 59 -/
instance : Inhabited S56 := ⟨z56⟩
def findB (l : List S63) (a : Int) : S63 × Bool := if firstP (fun x => x.f0 == a) l < 0 then (z63, false) else (rd_T63 l (firstP (fun x => x.f0 == a) l), true)
theorem firstP_lt {α : Type} (p : α → Bool) (l : List α) : firstP p l < l.length := by
 unfold firstP
 cases h : l.findIdx? p with
 | none => simp only; omega
 | some i =>
  rw [List.findIdx?_eq_some_iff_getElem] at h
  obtain ⟨hi, -⟩ := h
  simp only
  omega
theorem find_f (l : List S63) (a : Int) : blocks_Find.f l a = some ((findB l a).1.f0, (findB l a).1.f1, (findB l a).1.f2, (findB l a).1.f3, (findB l a).2) := by
 have h := firstP_lt (fun x => x.f0 == a) l
 unfold blocks_Find.f blocks_place.f findB
 simp only [Option.bind_some]
 by_cases h1 : firstP (fun x => x.f0 == a) l < 0
 ·simp only [if_pos h1]
  rfl
 simp only [if_neg h1]
 rw [if_pos (by omega), if_pos h]
theorem C_take {α : Type} {d : Kd α} {w : World} {A : Option Addr} {l : List α} (hr : Kd.C d w A l.length l) (i : Nat) : Kd.C d w A (l.take i).length (l.take i) :=
 ⟨rfl, Nat.le_trans (by rw [List.length_take]; exact Nat.min_le_right _ _) hr.2.1, fun hn => by
  obtain ⟨ad, e, hg⟩ := hr.2.2 (Nat.lt_of_lt_of_le hn (by rw [List.length_take]; exact Nat.min_le_right _ _))
  refine ⟨ad, e, fun j p hj => hg j p ?_⟩
  rw [List.getElem?_take] at hj
  split at hj
  ·exact hj
  ·cases hj⟩
theorem has_take {α : Type} [Inhabited α] (d : Kd α) (hsz : d.sz = 2) (p : α → Bool) (g : Nat) (lb : Array Value) (eg : ∀ args w, (callFunc g args).run Try.prog w = .ok (.enter g args) w)
  (A : Option Addr) (c : Nat) (l : List α) (i : Nat) (hi : i ≤ l.length) (w : World) (hp : PredB d g lb p w) (hr : Kd.C d w A l.length l) (hc : i ≤ c) :
  Calls Try.prog 31 #[.slice A i c, .func (.func g) #[] lb] w fun e w' => e = .returned (.bool ((l.take i).any p)) ∧ Below w.heap.size w w' := by
 have e : (l.take i).length = i := by rw [List.length_take]; omega
 have h := has_spot d hsz p g lb eg A c (l.take i) w hp (C_take hr i) (by omega)
 rw [e] at h
 exact h
theorem pred73 (a : Int) (B : Nat) (w : World) (hB : B < w.heap.size) (hcell : w.cell? ⟨B, 0, none⟩ = some (.int .i64 a)) :
  PredB k56 73 #[.pointer (some ⟨B, 0, none⟩)] (fun x => x.f0 == a) w := fun W x cs hb hK => by
 obtain rfl := k56_open hK
 have hc : W.cell? ⟨B, 0, none⟩ = some (.int .i64 a) := (hb.cell (p := ⟨B, 0, none⟩) hB).trans hcell
 have hBW : B < W.heap.size := Nat.lt_of_lt_of_le hB hb.size
 have hne : B ≠ W.heap.size := by omega
 show Calls Try.prog 73 #[.agg #[.int .i64 x.f0, .int .i64 x.f1], .pointer (some ⟨B, 0, none⟩)] W _
 go_enter Try.func73, Try.ntmps73
 go_wp2
 all_goals (go_ret; exact ⟨by simp_all, (Below.refl _ W).alloc (Nat.le_refl _) _⟩)
def errS (s : S56) (before : List S56) (b : S63 × Bool) : Int :=
 if b.2 = false then 5 else if before.any (fun x => x.f0 == s.f0) = true then 14 else if s.f1 < 0 then 2 else if s.f1 > 64 then 2 else if b.1.f2 < 0 then 2 else if b.1.f2 > 64 - s.f1 then 2 else 0
def image_spot.f (l0 : List S56) (a1 : Int) (l2 : List S63) : Option (Int × Int × Int × Bool × Int) :=
 if 0 ≤ a1 then if a1 < (l0.length : Int) then
  some ((findB l2 (rd_T56 l0 a1).f0).1.f0, (findB l2 (rd_T56 l0 a1).f0).1.f1, (findB l2 (rd_T56 l0 a1).f0).1.f2, (findB l2 (rd_T56 l0 a1).f0).1.f3, errS (rd_T56 l0 a1) (l0.take a1.toNat) (findB l2 (rd_T56 l0 a1).f0))
 else none else none
set_option maxRecDepth 100000 in
set_option maxHeartbeats 4000000 in
theorem image_spot.calls (A0 : Option Addr) (c0 : Nat) (l0 : List S56) (a1 : Int) (A2 : Option Addr) (c2 : Nat) (l2 : List S63) (r1 r2 r3 : Int) (r4 : Bool) (r5 : Int) (w : World) (hr0 : Kd.C k56 w A0 l0.length l0) (hc0 : l0.length ≤ c0) (hr2 : Kd.C k63 w A2 l2.length l2) (hc2 : l2.length ≤ c2) (h : image_spot.f l0 a1 l2 = some (r1, r2, r3, r4, r5)) :
  Calls Try.prog 59 #[.slice A0 l0.length c0, .int .i64 a1, .slice A2 l2.length c2] w fun e w' => e = .returned (.tuple #[.agg #[.int .i64 r1, .int .i64 r2, .int .i64 r3, .bool r4], .int .i64 r5]) ∧ Below w.heap.size w w' := by
 have eg : ∀ args w, (callFunc 73 args).run Try.prog w = .ok (.enter 73 args) w := enters_of Try.func73 (by kernel_rfl) rfl
 unfold image_spot.f at h
 by_cases h0 : ¬ 0 ≤ a1
 ·rw [if_neg h0] at h; cases h
 replace h0 := Decidable.not_not.1 h0
 rw [if_pos h0] at h
 by_cases h1 : ¬ a1 < (l0.length : Int)
 ·rw [if_neg h1] at h; cases h
 replace h1 := Decidable.not_not.1 h1
 rw [if_pos h1] at h
 obtain ⟨i, rfl⟩ : ∃ i : Nat, a1 = (i : Int) := ⟨a1.toNat, by omega⟩
 have hi0 : i < l0.length := by omega
 obtain ⟨bb, oo, rfl, hbb, hg⟩ := rowAt hr0 (by decide) (by omega)
 obtain ⟨cs, -, hK, hcell⟩ := hg i _ (List.getElem?_eq_getElem hi0)
 obtain rfl := k56_open hK
 have hrd : rd_T56 l0 (i : Int) = l0[i] := by simp [rd_T56, List.getD, hi0]
 rw [hrd] at h
 have q0 := hcell 0 _ rfl
 have q1 := hcell 1 _ rfl
 rw [Addr.add_lit] at q0 q1
 simp only [Nat.add_zero] at q0 q1
 rw [show k56.sz = 2 from rfl, ← Nat.add_assoc] at q1
 rw [show k56.sz = 2 from rfl] at q0
 clear hg hK hcell hrd
 have hfind := find_f l2 l0[i].f0
 have hi := Aside0.mk hi0
 have HR0 := Aside0.mk hr0
 have HC0 := Aside0.mk hc0
 have HR2 := Aside0.mk hr2
 have HC2 := Aside0.mk hc2
 obtain ⟨t, ht⟩ : ∃ t, (l0.take i).any (fun x => x.f0 == l0[i].f0) = t := ⟨_, rfl⟩
 rw [Int.toNat_natCast] at h
 simp only [Option.some.injEq, Prod.mk.injEq, errS, ht] at h
 obtain ⟨rfl, rfl, rfl, rfl, h⟩ := h
 have hbig : l0.length ≤ 9223372036854775807 := hr0.2.1
 have hi2 : i ≤ c0 := by omega
 clear hr0 hc0 hr2 hc2
 generalize findB l2 l0[i].f0 = y at hfind h ⊢
 generalize l0[i] = s at *
 obtain ⟨s0, s1⟩ := s
 obtain ⟨⟨b0, b1, b2, b3⟩, q⟩ := y
 simp only at hfind h ht q0 q1 ⊢
 have F := Aside0.mk hfind
 have T := Aside0.mk ht
 have l0_ := Aside0.mk q0
 have l1_ := Aside0.mk q1
 clear hfind ht q0 q1 hi0
 cases hq : q with
 | false =>
  subst hq
  rw [if_pos rfl] at h
  subst h
  go_enter Try.func59, Try.ntmps59
  go_wp2_with (first | ((with_reducible refine gate_dst (N := 6) rfl ?_); refine boxK (N := 6) (#[.int .i64 0, .int .i64 0, .int .i64 0, .bool false]) 63 ?_; intro g6 hg w1 hbox hb; have BK6 := Aside0.mk hbox; have HB := Aside0.mk hb; have G6 := Aside0.mk (show w.heap.size ≤ g6 by omega); have l00 : w1.cell? ⟨bb, oo + i * 2, none⟩ = some (.int .i64 s0) := (hb.cell (p := ⟨bb, oo + i * 2, none⟩) hbb).trans l0_.out; have l01 : w1.cell? ⟨bb, oo + i * 2 + 1, none⟩ = some (.int .i64 s1) := (hb.cell (p := ⟨bb, oo + i * 2 + 1, none⟩) hbb).trans l1_.out; clear hb hbox hg) | ((with_reducible refine gate_dst (N := 8) rfl ?_); refine boxK (N := 8) (#[.int .i64 0, .int .i64 0]) 56 ?_; intro g8 hg w2 hbox hb; have BK8 := Aside0.mk hbox; have BK6_ := Aside0.mk (blk_below BK6.out hb); have HB_ := Aside0.mk (below_step HB.out hb); have G8 := Aside0.mk (show w.heap.size ≤ g8 by have := HB.out.size; omega); have N68 := Aside0.mk (show g6 < g8 by have := blk_lt BK6.out; omega); clear BK6 HB l00 l01; have BK6 := BK6_; have HB := HB_; clear BK6_ HB_ hb hbox hg; have hc8 := bk2 BK8; skip) | (go_at_call 33; obtain ⟨W2, hW2⟩ : ∃ W : World, W = (w2.setCell ⟨g8, 0, none⟩ (.int .i64 s0)).setCell ⟨g8, 1, none⟩ (.int .i64 s1) := ⟨_, rfl⟩; rw [← hW2]; have k8 : W2.heap[g8]? = some (.cells #[.int .i64 s0, .int .i64 s1] 56 (0, 0)) := (by subst hW2; exact sKs BK8); have k6 : W2.heap[g6]? = some (.cells #[.int .i64 0, .int .i64 0, .int .i64 0, .bool false] 63 (0, 0)) := (by subst hW2; exact sKs BK6); have kb : Below w.heap.size w W2 := (by subst hW2; exact below_set (below_set HB.out G8.out) G8.out); clear hW2 BK8 BK6 HB hc8; refine (blocks_Find.calls A2 c2 l2 s0 b0 b1 b2 b3 _ W2 (Kd.C_below HR2.out kb) HC2.out F.out).mono ?_; rintro e w3 ⟨rfl, hb⟩; have BK8 := Aside0.mk (blk_below k8 hb); have BK6 := Aside0.mk (blk_below k6 hb); have HB := Aside0.mk (below_step kb hb); clear k8 k6 kb hb) | ((with_reducible refine gate_dst (N := 9) rfl ?_); refine boxK (N := 9) (#[.int .i64 0, .int .i64 0, .int .i64 0, .bool false]) 63 ?_; intro g9 hg w4 hbox hb; have BK9 := Aside0.mk hbox; have BK6_ := Aside0.mk (blk_below BK6.out hb); have BK8_ := Aside0.mk (blk_below BK8.out hb); have HB_ := Aside0.mk (below_step HB.out hb); have G9 := Aside0.mk (show w.heap.size ≤ g9 by have := HB.out.size; omega); have N69 := Aside0.mk (show g6 < g9 by have := blk_lt BK6.out; omega); have N89 := Aside0.mk (show g8 < g9 by have := blk_lt BK8.out; omega); clear BK6 BK8 HB; have BK6 := BK6_; have BK8 := BK8_; have HB := HB_; clear BK6_ BK8_ HB_ hb hbox hg; have hc9 := bk4 BK9; have hc6 := bk4 BK6; have n69 : ¬ g6 = g9 := (Nat.ne_of_lt N69.out); have n96 : ¬ g9 = g6 := (Nat.ne_of_gt N69.out)) | (go_at_call 31; obtain ⟨W4, hW4⟩ : ∃ W : World, W = (((w4.setCell ⟨g9, 0, none⟩ (.int .i64 b0)).setCell ⟨g9, 1, none⟩ (.int .i64 b1)).setCell ⟨g9, 2, none⟩ (.int .i64 b2)).setCell ⟨g9, 3, none⟩ (.bool b3) := ⟨_, rfl⟩; rw [← hW4]; have k9 : W4.heap[g9]? = some (.cells #[.int .i64 b0, .int .i64 b1, .int .i64 b2, .bool b3] 63 (0, 0)) := (by subst hW4; exact sKs BK9); have k6 : W4.heap[g6]? = some (.cells #[.int .i64 0, .int .i64 0, .int .i64 0, .bool false] 63 (0, 0)) := (by subst hW4; exact sKs BK6); have k8 : W4.heap[g8]? = some (.cells #[.int .i64 s0, .int .i64 s1] 56 (0, 0)) := (by subst hW4; exact sKs BK8); have kb : Below w.heap.size w W4 := (by subst hW4; exact below_set (below_set (below_set (below_set HB.out G9.out) G9.out) G9.out) G9.out); clear hW4 BK8 BK6 BK9 HB hc9 hc6; refine (has_take k56 rfl (fun x => x.f0 == s0) 73 #[.pointer (some ⟨g8, 0, none⟩)] eg (some ⟨bb, oo, none⟩) c0 l0 i (Nat.le_of_lt hi.out) W4 (pred73 s0 g8 W4 (blk_lt k8) ((blk_cell k8 0).trans rfl)) (Kd.C_below HR0.out kb) (by have := hi.out; have := HC0.out; omega)).mono ?_; rintro e w5 ⟨rfl, hb⟩; rw [T.out]; have BK8 := Aside0.mk (blk_below k8 hb); have BK6 := Aside0.mk (blk_below k6 hb); have BK9 := Aside0.mk (blk_below k9 hb); have HB := Aside0.mk (below_step kb hb); clear k8 k6 k9 kb hb; have hc9 := bk4 BK9; have hc6 := bk4 BK6; have hc8 := bk2 BK8; skip))
  refine bodyPost_ret (results_ct rfl _ _ g6 63 #[.int .i64 b0, .int .i64 b1, .int .i64 b2, .bool b3] (0, 0) _ rfl (blk_put (cs := #[.int .i64 b0, .int .i64 b1, .int .i64 b2, .bool false]) (blk_put (cs := #[.int .i64 b0, .int .i64 b1, .int .i64 0, .bool false]) (blk_put (cs := #[.int .i64 b0, .int .i64 0, .int .i64 0, .bool false]) (blk_put (cs := #[.int .i64 0, .int .i64 0, .int .i64 0, .bool false]) (blk_far (blk_far (blk_far (blk_far BK6.out (Nat.ne_of_lt N69.out) _) (Nat.ne_of_lt N69.out) _) (Nat.ne_of_lt N69.out) _) (Nat.ne_of_lt N69.out) _) 0 _ rfl) 1 _ rfl) 2 _ rfl) 3 _ rfl) Try.underlying63 rfl (by kernel_rfl)) rfl ?_
  exact ⟨rfl, below_set (below_set (below_set (below_set (below_set (below_set (below_set (below_set HB.out G9.out) G9.out) G9.out) G9.out) G6.out) G6.out) G6.out) G6.out⟩

 | true =>
  subst hq
  rw [if_neg (by simp)] at h
  cases ht : t with
  | true =>
   subst ht
   rw [if_pos rfl] at h
   subst h
   go_enter Try.func59, Try.ntmps59
   go_wp2_with (first | ((with_reducible refine gate_dst (N := 6) rfl ?_); refine boxK (N := 6) (#[.int .i64 0, .int .i64 0, .int .i64 0, .bool false]) 63 ?_; intro g6 hg w1 hbox hb; have BK6 := Aside0.mk hbox; have HB := Aside0.mk hb; have G6 := Aside0.mk (show w.heap.size ≤ g6 by omega); have l00 : w1.cell? ⟨bb, oo + i * 2, none⟩ = some (.int .i64 s0) := (hb.cell (p := ⟨bb, oo + i * 2, none⟩) hbb).trans l0_.out; have l01 : w1.cell? ⟨bb, oo + i * 2 + 1, none⟩ = some (.int .i64 s1) := (hb.cell (p := ⟨bb, oo + i * 2 + 1, none⟩) hbb).trans l1_.out; clear hb hbox hg) | ((with_reducible refine gate_dst (N := 8) rfl ?_); refine boxK (N := 8) (#[.int .i64 0, .int .i64 0]) 56 ?_; intro g8 hg w2 hbox hb; have BK8 := Aside0.mk hbox; have BK6_ := Aside0.mk (blk_below BK6.out hb); have HB_ := Aside0.mk (below_step HB.out hb); have G8 := Aside0.mk (show w.heap.size ≤ g8 by have := HB.out.size; omega); have N68 := Aside0.mk (show g6 < g8 by have := blk_lt BK6.out; omega); clear BK6 HB l00 l01; have BK6 := BK6_; have HB := HB_; clear BK6_ HB_ hb hbox hg; have hc8 := bk2 BK8; skip) | (go_at_call 33; obtain ⟨W2, hW2⟩ : ∃ W : World, W = (w2.setCell ⟨g8, 0, none⟩ (.int .i64 s0)).setCell ⟨g8, 1, none⟩ (.int .i64 s1) := ⟨_, rfl⟩; rw [← hW2]; have k8 : W2.heap[g8]? = some (.cells #[.int .i64 s0, .int .i64 s1] 56 (0, 0)) := (by subst hW2; exact sKs BK8); have k6 : W2.heap[g6]? = some (.cells #[.int .i64 0, .int .i64 0, .int .i64 0, .bool false] 63 (0, 0)) := (by subst hW2; exact sKs BK6); have kb : Below w.heap.size w W2 := (by subst hW2; exact below_set (below_set HB.out G8.out) G8.out); clear hW2 BK8 BK6 HB hc8; refine (blocks_Find.calls A2 c2 l2 s0 b0 b1 b2 b3 _ W2 (Kd.C_below HR2.out kb) HC2.out F.out).mono ?_; rintro e w3 ⟨rfl, hb⟩; have BK8 := Aside0.mk (blk_below k8 hb); have BK6 := Aside0.mk (blk_below k6 hb); have HB := Aside0.mk (below_step kb hb); clear k8 k6 kb hb) | ((with_reducible refine gate_dst (N := 9) rfl ?_); refine boxK (N := 9) (#[.int .i64 0, .int .i64 0, .int .i64 0, .bool false]) 63 ?_; intro g9 hg w4 hbox hb; have BK9 := Aside0.mk hbox; have BK6_ := Aside0.mk (blk_below BK6.out hb); have BK8_ := Aside0.mk (blk_below BK8.out hb); have HB_ := Aside0.mk (below_step HB.out hb); have G9 := Aside0.mk (show w.heap.size ≤ g9 by have := HB.out.size; omega); have N69 := Aside0.mk (show g6 < g9 by have := blk_lt BK6.out; omega); have N89 := Aside0.mk (show g8 < g9 by have := blk_lt BK8.out; omega); clear BK6 BK8 HB; have BK6 := BK6_; have BK8 := BK8_; have HB := HB_; clear BK6_ BK8_ HB_ hb hbox hg; have hc9 := bk4 BK9; have hc6 := bk4 BK6; have n69 : ¬ g6 = g9 := (Nat.ne_of_lt N69.out); have n96 : ¬ g9 = g6 := (Nat.ne_of_gt N69.out)) | (go_at_call 31; obtain ⟨W4, hW4⟩ : ∃ W : World, W = (((w4.setCell ⟨g9, 0, none⟩ (.int .i64 b0)).setCell ⟨g9, 1, none⟩ (.int .i64 b1)).setCell ⟨g9, 2, none⟩ (.int .i64 b2)).setCell ⟨g9, 3, none⟩ (.bool b3) := ⟨_, rfl⟩; rw [← hW4]; have k9 : W4.heap[g9]? = some (.cells #[.int .i64 b0, .int .i64 b1, .int .i64 b2, .bool b3] 63 (0, 0)) := (by subst hW4; exact sKs BK9); have k6 : W4.heap[g6]? = some (.cells #[.int .i64 0, .int .i64 0, .int .i64 0, .bool false] 63 (0, 0)) := (by subst hW4; exact sKs BK6); have k8 : W4.heap[g8]? = some (.cells #[.int .i64 s0, .int .i64 s1] 56 (0, 0)) := (by subst hW4; exact sKs BK8); have kb : Below w.heap.size w W4 := (by subst hW4; exact below_set (below_set (below_set (below_set HB.out G9.out) G9.out) G9.out) G9.out); clear hW4 BK8 BK6 BK9 HB hc9 hc6; refine (has_take k56 rfl (fun x => x.f0 == s0) 73 #[.pointer (some ⟨g8, 0, none⟩)] eg (some ⟨bb, oo, none⟩) c0 l0 i (Nat.le_of_lt hi.out) W4 (pred73 s0 g8 W4 (blk_lt k8) ((blk_cell k8 0).trans rfl)) (Kd.C_below HR0.out kb) (by have := hi.out; have := HC0.out; omega)).mono ?_; rintro e w5 ⟨rfl, hb⟩; rw [T.out]; have BK8 := Aside0.mk (blk_below k8 hb); have BK6 := Aside0.mk (blk_below k6 hb); have BK9 := Aside0.mk (blk_below k9 hb); have HB := Aside0.mk (below_step kb hb); clear k8 k6 k9 kb hb; have hc9 := bk4 BK9; have hc6 := bk4 BK6; have hc8 := bk2 BK8; skip))
   refine bodyPost_ret (results_ct rfl _ _ g6 63 #[.int .i64 b0, .int .i64 b1, .int .i64 b2, .bool b3] (0, 0) _ rfl (blk_put (cs := #[.int .i64 b0, .int .i64 b1, .int .i64 b2, .bool false]) (blk_put (cs := #[.int .i64 b0, .int .i64 b1, .int .i64 0, .bool false]) (blk_put (cs := #[.int .i64 b0, .int .i64 0, .int .i64 0, .bool false]) (blk_put (cs := #[.int .i64 0, .int .i64 0, .int .i64 0, .bool false]) BK6.out 0 _ rfl) 1 _ rfl) 2 _ rfl) 3 _ rfl) Try.underlying63 rfl (by kernel_rfl)) rfl ?_
   exact ⟨rfl, below_set (below_set (below_set (below_set (HB.out) G6.out) G6.out) G6.out) G6.out⟩

  | false =>
   subst ht
   rw [if_neg (by simp)] at h
   by_cases d1 : s1 < 0
   ·rw [if_pos d1] at h
    subst h
    go_enter Try.func59, Try.ntmps59
    go_wp2_with (first | ((with_reducible refine gate_dst (N := 6) rfl ?_); refine boxK (N := 6) (#[.int .i64 0, .int .i64 0, .int .i64 0, .bool false]) 63 ?_; intro g6 hg w1 hbox hb; have BK6 := Aside0.mk hbox; have HB := Aside0.mk hb; have G6 := Aside0.mk (show w.heap.size ≤ g6 by omega); have l00 : w1.cell? ⟨bb, oo + i * 2, none⟩ = some (.int .i64 s0) := (hb.cell (p := ⟨bb, oo + i * 2, none⟩) hbb).trans l0_.out; have l01 : w1.cell? ⟨bb, oo + i * 2 + 1, none⟩ = some (.int .i64 s1) := (hb.cell (p := ⟨bb, oo + i * 2 + 1, none⟩) hbb).trans l1_.out; clear hb hbox hg) | ((with_reducible refine gate_dst (N := 8) rfl ?_); refine boxK (N := 8) (#[.int .i64 0, .int .i64 0]) 56 ?_; intro g8 hg w2 hbox hb; have BK8 := Aside0.mk hbox; have BK6_ := Aside0.mk (blk_below BK6.out hb); have HB_ := Aside0.mk (below_step HB.out hb); have G8 := Aside0.mk (show w.heap.size ≤ g8 by have := HB.out.size; omega); have N68 := Aside0.mk (show g6 < g8 by have := blk_lt BK6.out; omega); clear BK6 HB l00 l01; have BK6 := BK6_; have HB := HB_; clear BK6_ HB_ hb hbox hg; have hc8 := bk2 BK8; skip) | (go_at_call 33; obtain ⟨W2, hW2⟩ : ∃ W : World, W = (w2.setCell ⟨g8, 0, none⟩ (.int .i64 s0)).setCell ⟨g8, 1, none⟩ (.int .i64 s1) := ⟨_, rfl⟩; rw [← hW2]; have k8 : W2.heap[g8]? = some (.cells #[.int .i64 s0, .int .i64 s1] 56 (0, 0)) := (by subst hW2; exact sKs BK8); have k6 : W2.heap[g6]? = some (.cells #[.int .i64 0, .int .i64 0, .int .i64 0, .bool false] 63 (0, 0)) := (by subst hW2; exact sKs BK6); have kb : Below w.heap.size w W2 := (by subst hW2; exact below_set (below_set HB.out G8.out) G8.out); clear hW2 BK8 BK6 HB hc8; refine (blocks_Find.calls A2 c2 l2 s0 b0 b1 b2 b3 _ W2 (Kd.C_below HR2.out kb) HC2.out F.out).mono ?_; rintro e w3 ⟨rfl, hb⟩; have BK8 := Aside0.mk (blk_below k8 hb); have BK6 := Aside0.mk (blk_below k6 hb); have HB := Aside0.mk (below_step kb hb); clear k8 k6 kb hb) | ((with_reducible refine gate_dst (N := 9) rfl ?_); refine boxK (N := 9) (#[.int .i64 0, .int .i64 0, .int .i64 0, .bool false]) 63 ?_; intro g9 hg w4 hbox hb; have BK9 := Aside0.mk hbox; have BK6_ := Aside0.mk (blk_below BK6.out hb); have BK8_ := Aside0.mk (blk_below BK8.out hb); have HB_ := Aside0.mk (below_step HB.out hb); have G9 := Aside0.mk (show w.heap.size ≤ g9 by have := HB.out.size; omega); have N69 := Aside0.mk (show g6 < g9 by have := blk_lt BK6.out; omega); have N89 := Aside0.mk (show g8 < g9 by have := blk_lt BK8.out; omega); clear BK6 BK8 HB; have BK6 := BK6_; have BK8 := BK8_; have HB := HB_; clear BK6_ BK8_ HB_ hb hbox hg; have hc9 := bk4 BK9; have hc6 := bk4 BK6; have n69 : ¬ g6 = g9 := (Nat.ne_of_lt N69.out); have n96 : ¬ g9 = g6 := (Nat.ne_of_gt N69.out)) | (go_at_call 31; obtain ⟨W4, hW4⟩ : ∃ W : World, W = (((w4.setCell ⟨g9, 0, none⟩ (.int .i64 b0)).setCell ⟨g9, 1, none⟩ (.int .i64 b1)).setCell ⟨g9, 2, none⟩ (.int .i64 b2)).setCell ⟨g9, 3, none⟩ (.bool b3) := ⟨_, rfl⟩; rw [← hW4]; have k9 : W4.heap[g9]? = some (.cells #[.int .i64 b0, .int .i64 b1, .int .i64 b2, .bool b3] 63 (0, 0)) := (by subst hW4; exact sKs BK9); have k6 : W4.heap[g6]? = some (.cells #[.int .i64 0, .int .i64 0, .int .i64 0, .bool false] 63 (0, 0)) := (by subst hW4; exact sKs BK6); have k8 : W4.heap[g8]? = some (.cells #[.int .i64 s0, .int .i64 s1] 56 (0, 0)) := (by subst hW4; exact sKs BK8); have kb : Below w.heap.size w W4 := (by subst hW4; exact below_set (below_set (below_set (below_set HB.out G9.out) G9.out) G9.out) G9.out); clear hW4 BK8 BK6 BK9 HB hc9 hc6; refine (has_take k56 rfl (fun x => x.f0 == s0) 73 #[.pointer (some ⟨g8, 0, none⟩)] eg (some ⟨bb, oo, none⟩) c0 l0 i (Nat.le_of_lt hi.out) W4 (pred73 s0 g8 W4 (blk_lt k8) ((blk_cell k8 0).trans rfl)) (Kd.C_below HR0.out kb) (by have := hi.out; have := HC0.out; omega)).mono ?_; rintro e w5 ⟨rfl, hb⟩; rw [T.out]; have BK8 := Aside0.mk (blk_below k8 hb); have BK6 := Aside0.mk (blk_below k6 hb); have BK9 := Aside0.mk (blk_below k9 hb); have HB := Aside0.mk (below_step kb hb); clear k8 k6 k9 kb hb; have hc9 := bk4 BK9; have hc6 := bk4 BK6; have hc8 := bk2 BK8; skip))
    refine bodyPost_ret (results_ct rfl _ _ g6 63 #[.int .i64 b0, .int .i64 b1, .int .i64 b2, .bool b3] (0, 0) _ rfl (blk_put (cs := #[.int .i64 b0, .int .i64 b1, .int .i64 b2, .bool false]) (blk_put (cs := #[.int .i64 b0, .int .i64 b1, .int .i64 0, .bool false]) (blk_put (cs := #[.int .i64 b0, .int .i64 0, .int .i64 0, .bool false]) (blk_put (cs := #[.int .i64 0, .int .i64 0, .int .i64 0, .bool false]) BK6.out 0 _ rfl) 1 _ rfl) 2 _ rfl) 3 _ rfl) Try.underlying63 rfl (by kernel_rfl)) rfl ?_
    exact ⟨rfl, below_set (below_set (below_set (below_set (HB.out) G6.out) G6.out) G6.out) G6.out⟩

   rw [if_neg d1] at h
   by_cases d2 : s1 > 64
   ·rw [if_pos d2] at h
    subst h
    go_enter Try.func59, Try.ntmps59
    go_wp2_with (first | ((with_reducible refine gate_dst (N := 6) rfl ?_); refine boxK (N := 6) (#[.int .i64 0, .int .i64 0, .int .i64 0, .bool false]) 63 ?_; intro g6 hg w1 hbox hb; have BK6 := Aside0.mk hbox; have HB := Aside0.mk hb; have G6 := Aside0.mk (show w.heap.size ≤ g6 by omega); have l00 : w1.cell? ⟨bb, oo + i * 2, none⟩ = some (.int .i64 s0) := (hb.cell (p := ⟨bb, oo + i * 2, none⟩) hbb).trans l0_.out; have l01 : w1.cell? ⟨bb, oo + i * 2 + 1, none⟩ = some (.int .i64 s1) := (hb.cell (p := ⟨bb, oo + i * 2 + 1, none⟩) hbb).trans l1_.out; clear hb hbox hg) | ((with_reducible refine gate_dst (N := 8) rfl ?_); refine boxK (N := 8) (#[.int .i64 0, .int .i64 0]) 56 ?_; intro g8 hg w2 hbox hb; have BK8 := Aside0.mk hbox; have BK6_ := Aside0.mk (blk_below BK6.out hb); have HB_ := Aside0.mk (below_step HB.out hb); have G8 := Aside0.mk (show w.heap.size ≤ g8 by have := HB.out.size; omega); have N68 := Aside0.mk (show g6 < g8 by have := blk_lt BK6.out; omega); clear BK6 HB l00 l01; have BK6 := BK6_; have HB := HB_; clear BK6_ HB_ hb hbox hg; have hc8 := bk2 BK8; skip) | (go_at_call 33; obtain ⟨W2, hW2⟩ : ∃ W : World, W = (w2.setCell ⟨g8, 0, none⟩ (.int .i64 s0)).setCell ⟨g8, 1, none⟩ (.int .i64 s1) := ⟨_, rfl⟩; rw [← hW2]; have k8 : W2.heap[g8]? = some (.cells #[.int .i64 s0, .int .i64 s1] 56 (0, 0)) := (by subst hW2; exact sKs BK8); have k6 : W2.heap[g6]? = some (.cells #[.int .i64 0, .int .i64 0, .int .i64 0, .bool false] 63 (0, 0)) := (by subst hW2; exact sKs BK6); have kb : Below w.heap.size w W2 := (by subst hW2; exact below_set (below_set HB.out G8.out) G8.out); clear hW2 BK8 BK6 HB hc8; refine (blocks_Find.calls A2 c2 l2 s0 b0 b1 b2 b3 _ W2 (Kd.C_below HR2.out kb) HC2.out F.out).mono ?_; rintro e w3 ⟨rfl, hb⟩; have BK8 := Aside0.mk (blk_below k8 hb); have BK6 := Aside0.mk (blk_below k6 hb); have HB := Aside0.mk (below_step kb hb); clear k8 k6 kb hb) | ((with_reducible refine gate_dst (N := 9) rfl ?_); refine boxK (N := 9) (#[.int .i64 0, .int .i64 0, .int .i64 0, .bool false]) 63 ?_; intro g9 hg w4 hbox hb; have BK9 := Aside0.mk hbox; have BK6_ := Aside0.mk (blk_below BK6.out hb); have BK8_ := Aside0.mk (blk_below BK8.out hb); have HB_ := Aside0.mk (below_step HB.out hb); have G9 := Aside0.mk (show w.heap.size ≤ g9 by have := HB.out.size; omega); have N69 := Aside0.mk (show g6 < g9 by have := blk_lt BK6.out; omega); have N89 := Aside0.mk (show g8 < g9 by have := blk_lt BK8.out; omega); clear BK6 BK8 HB; have BK6 := BK6_; have BK8 := BK8_; have HB := HB_; clear BK6_ BK8_ HB_ hb hbox hg; have hc9 := bk4 BK9; have hc6 := bk4 BK6; have n69 : ¬ g6 = g9 := (Nat.ne_of_lt N69.out); have n96 : ¬ g9 = g6 := (Nat.ne_of_gt N69.out)) | (go_at_call 31; obtain ⟨W4, hW4⟩ : ∃ W : World, W = (((w4.setCell ⟨g9, 0, none⟩ (.int .i64 b0)).setCell ⟨g9, 1, none⟩ (.int .i64 b1)).setCell ⟨g9, 2, none⟩ (.int .i64 b2)).setCell ⟨g9, 3, none⟩ (.bool b3) := ⟨_, rfl⟩; rw [← hW4]; have k9 : W4.heap[g9]? = some (.cells #[.int .i64 b0, .int .i64 b1, .int .i64 b2, .bool b3] 63 (0, 0)) := (by subst hW4; exact sKs BK9); have k6 : W4.heap[g6]? = some (.cells #[.int .i64 0, .int .i64 0, .int .i64 0, .bool false] 63 (0, 0)) := (by subst hW4; exact sKs BK6); have k8 : W4.heap[g8]? = some (.cells #[.int .i64 s0, .int .i64 s1] 56 (0, 0)) := (by subst hW4; exact sKs BK8); have kb : Below w.heap.size w W4 := (by subst hW4; exact below_set (below_set (below_set (below_set HB.out G9.out) G9.out) G9.out) G9.out); clear hW4 BK8 BK6 BK9 HB hc9 hc6; refine (has_take k56 rfl (fun x => x.f0 == s0) 73 #[.pointer (some ⟨g8, 0, none⟩)] eg (some ⟨bb, oo, none⟩) c0 l0 i (Nat.le_of_lt hi.out) W4 (pred73 s0 g8 W4 (blk_lt k8) ((blk_cell k8 0).trans rfl)) (Kd.C_below HR0.out kb) (by have := hi.out; have := HC0.out; omega)).mono ?_; rintro e w5 ⟨rfl, hb⟩; rw [T.out]; have BK8 := Aside0.mk (blk_below k8 hb); have BK6 := Aside0.mk (blk_below k6 hb); have BK9 := Aside0.mk (blk_below k9 hb); have HB := Aside0.mk (below_step kb hb); clear k8 k6 k9 kb hb; have hc9 := bk4 BK9; have hc6 := bk4 BK6; have hc8 := bk2 BK8; skip))
    refine bodyPost_ret (results_ct rfl _ _ g6 63 #[.int .i64 b0, .int .i64 b1, .int .i64 b2, .bool b3] (0, 0) _ rfl (blk_put (cs := #[.int .i64 b0, .int .i64 b1, .int .i64 b2, .bool false]) (blk_put (cs := #[.int .i64 b0, .int .i64 b1, .int .i64 0, .bool false]) (blk_put (cs := #[.int .i64 b0, .int .i64 0, .int .i64 0, .bool false]) (blk_put (cs := #[.int .i64 0, .int .i64 0, .int .i64 0, .bool false]) BK6.out 0 _ rfl) 1 _ rfl) 2 _ rfl) 3 _ rfl) Try.underlying63 rfl (by kernel_rfl)) rfl ?_
    exact ⟨rfl, below_set (below_set (below_set (below_set (HB.out) G6.out) G6.out) G6.out) G6.out⟩

   rw [if_neg d2] at h
   by_cases d3 : b2 < 0
   ·rw [if_pos d3] at h
    subst h
    go_enter Try.func59, Try.ntmps59
    go_wp2_with (first | ((with_reducible refine gate_dst (N := 6) rfl ?_); refine boxK (N := 6) (#[.int .i64 0, .int .i64 0, .int .i64 0, .bool false]) 63 ?_; intro g6 hg w1 hbox hb; have BK6 := Aside0.mk hbox; have HB := Aside0.mk hb; have G6 := Aside0.mk (show w.heap.size ≤ g6 by omega); have l00 : w1.cell? ⟨bb, oo + i * 2, none⟩ = some (.int .i64 s0) := (hb.cell (p := ⟨bb, oo + i * 2, none⟩) hbb).trans l0_.out; have l01 : w1.cell? ⟨bb, oo + i * 2 + 1, none⟩ = some (.int .i64 s1) := (hb.cell (p := ⟨bb, oo + i * 2 + 1, none⟩) hbb).trans l1_.out; clear hb hbox hg) | ((with_reducible refine gate_dst (N := 8) rfl ?_); refine boxK (N := 8) (#[.int .i64 0, .int .i64 0]) 56 ?_; intro g8 hg w2 hbox hb; have BK8 := Aside0.mk hbox; have BK6_ := Aside0.mk (blk_below BK6.out hb); have HB_ := Aside0.mk (below_step HB.out hb); have G8 := Aside0.mk (show w.heap.size ≤ g8 by have := HB.out.size; omega); have N68 := Aside0.mk (show g6 < g8 by have := blk_lt BK6.out; omega); clear BK6 HB l00 l01; have BK6 := BK6_; have HB := HB_; clear BK6_ HB_ hb hbox hg; have hc8 := bk2 BK8; skip) | (go_at_call 33; obtain ⟨W2, hW2⟩ : ∃ W : World, W = (w2.setCell ⟨g8, 0, none⟩ (.int .i64 s0)).setCell ⟨g8, 1, none⟩ (.int .i64 s1) := ⟨_, rfl⟩; rw [← hW2]; have k8 : W2.heap[g8]? = some (.cells #[.int .i64 s0, .int .i64 s1] 56 (0, 0)) := (by subst hW2; exact sKs BK8); have k6 : W2.heap[g6]? = some (.cells #[.int .i64 0, .int .i64 0, .int .i64 0, .bool false] 63 (0, 0)) := (by subst hW2; exact sKs BK6); have kb : Below w.heap.size w W2 := (by subst hW2; exact below_set (below_set HB.out G8.out) G8.out); clear hW2 BK8 BK6 HB hc8; refine (blocks_Find.calls A2 c2 l2 s0 b0 b1 b2 b3 _ W2 (Kd.C_below HR2.out kb) HC2.out F.out).mono ?_; rintro e w3 ⟨rfl, hb⟩; have BK8 := Aside0.mk (blk_below k8 hb); have BK6 := Aside0.mk (blk_below k6 hb); have HB := Aside0.mk (below_step kb hb); clear k8 k6 kb hb) | ((with_reducible refine gate_dst (N := 9) rfl ?_); refine boxK (N := 9) (#[.int .i64 0, .int .i64 0, .int .i64 0, .bool false]) 63 ?_; intro g9 hg w4 hbox hb; have BK9 := Aside0.mk hbox; have BK6_ := Aside0.mk (blk_below BK6.out hb); have BK8_ := Aside0.mk (blk_below BK8.out hb); have HB_ := Aside0.mk (below_step HB.out hb); have G9 := Aside0.mk (show w.heap.size ≤ g9 by have := HB.out.size; omega); have N69 := Aside0.mk (show g6 < g9 by have := blk_lt BK6.out; omega); have N89 := Aside0.mk (show g8 < g9 by have := blk_lt BK8.out; omega); clear BK6 BK8 HB; have BK6 := BK6_; have BK8 := BK8_; have HB := HB_; clear BK6_ BK8_ HB_ hb hbox hg; have hc9 := bk4 BK9; have hc6 := bk4 BK6; have n69 : ¬ g6 = g9 := (Nat.ne_of_lt N69.out); have n96 : ¬ g9 = g6 := (Nat.ne_of_gt N69.out)) | (go_at_call 31; obtain ⟨W4, hW4⟩ : ∃ W : World, W = (((w4.setCell ⟨g9, 0, none⟩ (.int .i64 b0)).setCell ⟨g9, 1, none⟩ (.int .i64 b1)).setCell ⟨g9, 2, none⟩ (.int .i64 b2)).setCell ⟨g9, 3, none⟩ (.bool b3) := ⟨_, rfl⟩; rw [← hW4]; have k9 : W4.heap[g9]? = some (.cells #[.int .i64 b0, .int .i64 b1, .int .i64 b2, .bool b3] 63 (0, 0)) := (by subst hW4; exact sKs BK9); have k6 : W4.heap[g6]? = some (.cells #[.int .i64 0, .int .i64 0, .int .i64 0, .bool false] 63 (0, 0)) := (by subst hW4; exact sKs BK6); have k8 : W4.heap[g8]? = some (.cells #[.int .i64 s0, .int .i64 s1] 56 (0, 0)) := (by subst hW4; exact sKs BK8); have kb : Below w.heap.size w W4 := (by subst hW4; exact below_set (below_set (below_set (below_set HB.out G9.out) G9.out) G9.out) G9.out); clear hW4 BK8 BK6 BK9 HB hc9 hc6; refine (has_take k56 rfl (fun x => x.f0 == s0) 73 #[.pointer (some ⟨g8, 0, none⟩)] eg (some ⟨bb, oo, none⟩) c0 l0 i (Nat.le_of_lt hi.out) W4 (pred73 s0 g8 W4 (blk_lt k8) ((blk_cell k8 0).trans rfl)) (Kd.C_below HR0.out kb) (by have := hi.out; have := HC0.out; omega)).mono ?_; rintro e w5 ⟨rfl, hb⟩; rw [T.out]; have BK8 := Aside0.mk (blk_below k8 hb); have BK6 := Aside0.mk (blk_below k6 hb); have BK9 := Aside0.mk (blk_below k9 hb); have HB := Aside0.mk (below_step kb hb); clear k8 k6 k9 kb hb; have hc9 := bk4 BK9; have hc6 := bk4 BK6; have hc8 := bk2 BK8; skip))
    refine bodyPost_ret (results_ct rfl _ _ g6 63 #[.int .i64 b0, .int .i64 b1, .int .i64 b2, .bool b3] (0, 0) _ rfl (blk_put (cs := #[.int .i64 b0, .int .i64 b1, .int .i64 b2, .bool false]) (blk_put (cs := #[.int .i64 b0, .int .i64 b1, .int .i64 0, .bool false]) (blk_put (cs := #[.int .i64 b0, .int .i64 0, .int .i64 0, .bool false]) (blk_put (cs := #[.int .i64 0, .int .i64 0, .int .i64 0, .bool false]) BK6.out 0 _ rfl) 1 _ rfl) 2 _ rfl) 3 _ rfl) Try.underlying63 rfl (by kernel_rfl)) rfl ?_
    exact ⟨rfl, below_set (below_set (below_set (below_set (HB.out) G6.out) G6.out) G6.out) G6.out⟩

   rw [if_neg d3] at h
   have hw : wrap64 (64 - s1) = 64 - s1 := by unfold wrap64; omega
   by_cases d4 : b2 > 64 - s1
   ·rw [if_pos d4] at h
    subst h
    go_enter Try.func59, Try.ntmps59
    go_wp2_with (first | ((with_reducible refine gate_dst (N := 6) rfl ?_); refine boxK (N := 6) (#[.int .i64 0, .int .i64 0, .int .i64 0, .bool false]) 63 ?_; intro g6 hg w1 hbox hb; have BK6 := Aside0.mk hbox; have HB := Aside0.mk hb; have G6 := Aside0.mk (show w.heap.size ≤ g6 by omega); have l00 : w1.cell? ⟨bb, oo + i * 2, none⟩ = some (.int .i64 s0) := (hb.cell (p := ⟨bb, oo + i * 2, none⟩) hbb).trans l0_.out; have l01 : w1.cell? ⟨bb, oo + i * 2 + 1, none⟩ = some (.int .i64 s1) := (hb.cell (p := ⟨bb, oo + i * 2 + 1, none⟩) hbb).trans l1_.out; clear hb hbox hg) | ((with_reducible refine gate_dst (N := 8) rfl ?_); refine boxK (N := 8) (#[.int .i64 0, .int .i64 0]) 56 ?_; intro g8 hg w2 hbox hb; have BK8 := Aside0.mk hbox; have BK6_ := Aside0.mk (blk_below BK6.out hb); have HB_ := Aside0.mk (below_step HB.out hb); have G8 := Aside0.mk (show w.heap.size ≤ g8 by have := HB.out.size; omega); have N68 := Aside0.mk (show g6 < g8 by have := blk_lt BK6.out; omega); clear BK6 HB l00 l01; have BK6 := BK6_; have HB := HB_; clear BK6_ HB_ hb hbox hg; have hc8 := bk2 BK8; skip) | (go_at_call 33; obtain ⟨W2, hW2⟩ : ∃ W : World, W = (w2.setCell ⟨g8, 0, none⟩ (.int .i64 s0)).setCell ⟨g8, 1, none⟩ (.int .i64 s1) := ⟨_, rfl⟩; rw [← hW2]; have k8 : W2.heap[g8]? = some (.cells #[.int .i64 s0, .int .i64 s1] 56 (0, 0)) := (by subst hW2; exact sKs BK8); have k6 : W2.heap[g6]? = some (.cells #[.int .i64 0, .int .i64 0, .int .i64 0, .bool false] 63 (0, 0)) := (by subst hW2; exact sKs BK6); have kb : Below w.heap.size w W2 := (by subst hW2; exact below_set (below_set HB.out G8.out) G8.out); clear hW2 BK8 BK6 HB hc8; refine (blocks_Find.calls A2 c2 l2 s0 b0 b1 b2 b3 _ W2 (Kd.C_below HR2.out kb) HC2.out F.out).mono ?_; rintro e w3 ⟨rfl, hb⟩; have BK8 := Aside0.mk (blk_below k8 hb); have BK6 := Aside0.mk (blk_below k6 hb); have HB := Aside0.mk (below_step kb hb); clear k8 k6 kb hb) | ((with_reducible refine gate_dst (N := 9) rfl ?_); refine boxK (N := 9) (#[.int .i64 0, .int .i64 0, .int .i64 0, .bool false]) 63 ?_; intro g9 hg w4 hbox hb; have BK9 := Aside0.mk hbox; have BK6_ := Aside0.mk (blk_below BK6.out hb); have BK8_ := Aside0.mk (blk_below BK8.out hb); have HB_ := Aside0.mk (below_step HB.out hb); have G9 := Aside0.mk (show w.heap.size ≤ g9 by have := HB.out.size; omega); have N69 := Aside0.mk (show g6 < g9 by have := blk_lt BK6.out; omega); have N89 := Aside0.mk (show g8 < g9 by have := blk_lt BK8.out; omega); clear BK6 BK8 HB; have BK6 := BK6_; have BK8 := BK8_; have HB := HB_; clear BK6_ BK8_ HB_ hb hbox hg; have hc9 := bk4 BK9; have hc6 := bk4 BK6; have n69 : ¬ g6 = g9 := (Nat.ne_of_lt N69.out); have n96 : ¬ g9 = g6 := (Nat.ne_of_gt N69.out)) | (go_at_call 31; obtain ⟨W4, hW4⟩ : ∃ W : World, W = (((w4.setCell ⟨g9, 0, none⟩ (.int .i64 b0)).setCell ⟨g9, 1, none⟩ (.int .i64 b1)).setCell ⟨g9, 2, none⟩ (.int .i64 b2)).setCell ⟨g9, 3, none⟩ (.bool b3) := ⟨_, rfl⟩; rw [← hW4]; have k9 : W4.heap[g9]? = some (.cells #[.int .i64 b0, .int .i64 b1, .int .i64 b2, .bool b3] 63 (0, 0)) := (by subst hW4; exact sKs BK9); have k6 : W4.heap[g6]? = some (.cells #[.int .i64 0, .int .i64 0, .int .i64 0, .bool false] 63 (0, 0)) := (by subst hW4; exact sKs BK6); have k8 : W4.heap[g8]? = some (.cells #[.int .i64 s0, .int .i64 s1] 56 (0, 0)) := (by subst hW4; exact sKs BK8); have kb : Below w.heap.size w W4 := (by subst hW4; exact below_set (below_set (below_set (below_set HB.out G9.out) G9.out) G9.out) G9.out); clear hW4 BK8 BK6 BK9 HB hc9 hc6; refine (has_take k56 rfl (fun x => x.f0 == s0) 73 #[.pointer (some ⟨g8, 0, none⟩)] eg (some ⟨bb, oo, none⟩) c0 l0 i (Nat.le_of_lt hi.out) W4 (pred73 s0 g8 W4 (blk_lt k8) ((blk_cell k8 0).trans rfl)) (Kd.C_below HR0.out kb) (by have := hi.out; have := HC0.out; omega)).mono ?_; rintro e w5 ⟨rfl, hb⟩; rw [T.out]; have BK8 := Aside0.mk (blk_below k8 hb); have BK6 := Aside0.mk (blk_below k6 hb); have BK9 := Aside0.mk (blk_below k9 hb); have HB := Aside0.mk (below_step kb hb); clear k8 k6 k9 kb hb; have hc9 := bk4 BK9; have hc6 := bk4 BK6; have hc8 := bk2 BK8; skip))
    refine bodyPost_ret (results_ct rfl _ _ g6 63 #[.int .i64 b0, .int .i64 b1, .int .i64 b2, .bool b3] (0, 0) _ rfl (blk_put (cs := #[.int .i64 b0, .int .i64 b1, .int .i64 b2, .bool false]) (blk_put (cs := #[.int .i64 b0, .int .i64 b1, .int .i64 0, .bool false]) (blk_put (cs := #[.int .i64 b0, .int .i64 0, .int .i64 0, .bool false]) (blk_put (cs := #[.int .i64 0, .int .i64 0, .int .i64 0, .bool false]) BK6.out 0 _ rfl) 1 _ rfl) 2 _ rfl) 3 _ rfl) Try.underlying63 rfl (by kernel_rfl)) rfl ?_
    exact ⟨rfl, below_set (below_set (below_set (below_set (HB.out) G6.out) G6.out) G6.out) G6.out⟩

   rw [if_neg d4] at h
   subst h
   go_enter Try.func59, Try.ntmps59
   go_wp2_with (first | ((with_reducible refine gate_dst (N := 6) rfl ?_); refine boxK (N := 6) (#[.int .i64 0, .int .i64 0, .int .i64 0, .bool false]) 63 ?_; intro g6 hg w1 hbox hb; have BK6 := Aside0.mk hbox; have HB := Aside0.mk hb; have G6 := Aside0.mk (show w.heap.size ≤ g6 by omega); have l00 : w1.cell? ⟨bb, oo + i * 2, none⟩ = some (.int .i64 s0) := (hb.cell (p := ⟨bb, oo + i * 2, none⟩) hbb).trans l0_.out; have l01 : w1.cell? ⟨bb, oo + i * 2 + 1, none⟩ = some (.int .i64 s1) := (hb.cell (p := ⟨bb, oo + i * 2 + 1, none⟩) hbb).trans l1_.out; clear hb hbox hg) | ((with_reducible refine gate_dst (N := 8) rfl ?_); refine boxK (N := 8) (#[.int .i64 0, .int .i64 0]) 56 ?_; intro g8 hg w2 hbox hb; have BK8 := Aside0.mk hbox; have BK6_ := Aside0.mk (blk_below BK6.out hb); have HB_ := Aside0.mk (below_step HB.out hb); have G8 := Aside0.mk (show w.heap.size ≤ g8 by have := HB.out.size; omega); have N68 := Aside0.mk (show g6 < g8 by have := blk_lt BK6.out; omega); clear BK6 HB l00 l01; have BK6 := BK6_; have HB := HB_; clear BK6_ HB_ hb hbox hg; have hc8 := bk2 BK8; skip) | (go_at_call 33; obtain ⟨W2, hW2⟩ : ∃ W : World, W = (w2.setCell ⟨g8, 0, none⟩ (.int .i64 s0)).setCell ⟨g8, 1, none⟩ (.int .i64 s1) := ⟨_, rfl⟩; rw [← hW2]; have k8 : W2.heap[g8]? = some (.cells #[.int .i64 s0, .int .i64 s1] 56 (0, 0)) := (by subst hW2; exact sKs BK8); have k6 : W2.heap[g6]? = some (.cells #[.int .i64 0, .int .i64 0, .int .i64 0, .bool false] 63 (0, 0)) := (by subst hW2; exact sKs BK6); have kb : Below w.heap.size w W2 := (by subst hW2; exact below_set (below_set HB.out G8.out) G8.out); clear hW2 BK8 BK6 HB hc8; refine (blocks_Find.calls A2 c2 l2 s0 b0 b1 b2 b3 _ W2 (Kd.C_below HR2.out kb) HC2.out F.out).mono ?_; rintro e w3 ⟨rfl, hb⟩; have BK8 := Aside0.mk (blk_below k8 hb); have BK6 := Aside0.mk (blk_below k6 hb); have HB := Aside0.mk (below_step kb hb); clear k8 k6 kb hb) | ((with_reducible refine gate_dst (N := 9) rfl ?_); refine boxK (N := 9) (#[.int .i64 0, .int .i64 0, .int .i64 0, .bool false]) 63 ?_; intro g9 hg w4 hbox hb; have BK9 := Aside0.mk hbox; have BK6_ := Aside0.mk (blk_below BK6.out hb); have BK8_ := Aside0.mk (blk_below BK8.out hb); have HB_ := Aside0.mk (below_step HB.out hb); have G9 := Aside0.mk (show w.heap.size ≤ g9 by have := HB.out.size; omega); have N69 := Aside0.mk (show g6 < g9 by have := blk_lt BK6.out; omega); have N89 := Aside0.mk (show g8 < g9 by have := blk_lt BK8.out; omega); clear BK6 BK8 HB; have BK6 := BK6_; have BK8 := BK8_; have HB := HB_; clear BK6_ BK8_ HB_ hb hbox hg; have hc9 := bk4 BK9; have hc6 := bk4 BK6; have n69 : ¬ g6 = g9 := (Nat.ne_of_lt N69.out); have n96 : ¬ g9 = g6 := (Nat.ne_of_gt N69.out)) | (go_at_call 31; obtain ⟨W4, hW4⟩ : ∃ W : World, W = (((w4.setCell ⟨g9, 0, none⟩ (.int .i64 b0)).setCell ⟨g9, 1, none⟩ (.int .i64 b1)).setCell ⟨g9, 2, none⟩ (.int .i64 b2)).setCell ⟨g9, 3, none⟩ (.bool b3) := ⟨_, rfl⟩; rw [← hW4]; have k9 : W4.heap[g9]? = some (.cells #[.int .i64 b0, .int .i64 b1, .int .i64 b2, .bool b3] 63 (0, 0)) := (by subst hW4; exact sKs BK9); have k6 : W4.heap[g6]? = some (.cells #[.int .i64 0, .int .i64 0, .int .i64 0, .bool false] 63 (0, 0)) := (by subst hW4; exact sKs BK6); have k8 : W4.heap[g8]? = some (.cells #[.int .i64 s0, .int .i64 s1] 56 (0, 0)) := (by subst hW4; exact sKs BK8); have kb : Below w.heap.size w W4 := (by subst hW4; exact below_set (below_set (below_set (below_set HB.out G9.out) G9.out) G9.out) G9.out); clear hW4 BK8 BK6 BK9 HB hc9 hc6; refine (has_take k56 rfl (fun x => x.f0 == s0) 73 #[.pointer (some ⟨g8, 0, none⟩)] eg (some ⟨bb, oo, none⟩) c0 l0 i (Nat.le_of_lt hi.out) W4 (pred73 s0 g8 W4 (blk_lt k8) ((blk_cell k8 0).trans rfl)) (Kd.C_below HR0.out kb) (by have := hi.out; have := HC0.out; omega)).mono ?_; rintro e w5 ⟨rfl, hb⟩; rw [T.out]; have BK8 := Aside0.mk (blk_below k8 hb); have BK6 := Aside0.mk (blk_below k6 hb); have BK9 := Aside0.mk (blk_below k9 hb); have HB := Aside0.mk (below_step kb hb); clear k8 k6 k9 kb hb; have hc9 := bk4 BK9; have hc6 := bk4 BK6; have hc8 := bk2 BK8; skip))
   refine bodyPost_ret (results_ct rfl _ _ g6 63 #[.int .i64 b0, .int .i64 b1, .int .i64 b2, .bool b3] (0, 0) _ rfl (blk_put (cs := #[.int .i64 b0, .int .i64 b1, .int .i64 b2, .bool false]) (blk_put (cs := #[.int .i64 b0, .int .i64 b1, .int .i64 0, .bool false]) (blk_put (cs := #[.int .i64 b0, .int .i64 0, .int .i64 0, .bool false]) (blk_put (cs := #[.int .i64 0, .int .i64 0, .int .i64 0, .bool false]) BK6.out 0 _ rfl) 1 _ rfl) 2 _ rfl) 3 _ rfl) Try.underlying63 rfl (by kernel_rfl)) rfl ?_
   exact ⟨rfl, below_set (below_set (below_set (below_set (HB.out) G6.out) G6.out) G6.out) G6.out⟩


end Go.Proofs.Ytedmikeamgebjaa.R
