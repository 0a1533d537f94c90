-- Written by a program out of the translation; not trusted: Lean checks it.
import Derived.Test.YtedmikeamgebjaaK
import Derived.Test.YtedmikeamgebjaaFx0
import Derived.Test.YtedmikeamgebjaaFx3
import Derived.Test.YtedmikeamgebjaaFx4
namespace Go.Proofs.Ytedmikeamgebjaa.F
open Go.Proofs.YtedmikeamgebjaaW.PrintK Go.RowKit Go.Proofs.YtedmikeamgebjaaW.PrintWords Go.Proofs.YtedmikeamgebjaaW.PrintLast Go.Proofs.YtedmikeamgebjaaW.PrintMore
attribute [local go_sem] max2_int min2_int max_two min_two max_three min_three max_four min_four   -- for this text's walks alone
set_option linter.unusedVariables false
set_option linter.unusedSimpArgs false

/-! ### config_station: function 22 -/
def config_station.j0 : Nat → Int → Bool → Int → Int → Int → Int → Int → Int → List (S63) → List (S37) → Int → Int → Int → List (S54) → List (S56) → List (S56) → Option (Int)
 | 0, _, _, _, _, _, _, _, _, _, _, _, _, _, _, _, _ => none
 | k + 1, x1, x17, x132000, x132001, x132002, x132003, x132004, x132005, x132006, x132007, x134000, x134001, x134002, x134003, x134004, x134005 => if x17 = true then (some 3) else ((config_place.f x132000 x132001 x132002 x132003 x132004 x132005 x132006 x132007 x134000).bind fun t136 => (if t136 < x1 then (some 14) else ((image_Lay.f k x134002 x134004 x132006).bind fun bt137 => (if bt137.1 = 0 then ((verify_Check.f x134003).bind fun bt139 => (if bt139.1 = 0 then ((image_Reach.f k x134005 x132006).bind fun bt141 => (if bt141.1 = 0 then ((config_owns.f x132000 x132001 x132002 x132003 x132004 x132005 x132006 x132007 x134000 x134001 x134002 x134003 x134004 x134005).bind fun t143 => (if t143 = true then (some 0) else (some 5))) else (some bt141.1))) else (some bt139.1))) else (some bt137.1)))))
def config_station.f (k : Nat) (a0_0 : Int) (a0_1 : Int) (a0_2 : Int) (a0_3 : Int) (a0_4 : Int) (a0_5 : Int) (l0_6 : List (S63)) (l0_7 : List (S37)) (a1 : Int) : Option (Int) := if 0 ≤ a1 then (if a1 < (l0_7.length : Int) then ((config_in.f ((rd_T37 l0_7 a1).f0) 0 a0_5).bind fun t134 => (if t134 = true then ((config_in.f ((rd_T37 l0_7 a1).f1) 1 1000).bind fun t135 => (config_station.j0 k a1 (!t135) a0_0 a0_1 a0_2 a0_3 a0_4 a0_5 l0_6 l0_7 ((rd_T37 l0_7 a1).f0) ((rd_T37 l0_7 a1).f1) ((rd_T37 l0_7 a1).f2) ((rd_T37 l0_7 a1).f3) ((rd_T37 l0_7 a1).f4) ((rd_T37 l0_7 a1).f5))) else (config_station.j0 k a1 true a0_0 a0_1 a0_2 a0_3 a0_4 a0_5 l0_6 l0_7 ((rd_T37 l0_7 a1).f0) ((rd_T37 l0_7 a1).f1) ((rd_T37 l0_7 a1).f2) ((rd_T37 l0_7 a1).f3) ((rd_T37 l0_7 a1).f4) ((rd_T37 l0_7 a1).f5)))) else (none)) else (none)
theorem config_station.mono_l : ∀ k, (∀ y0 y1 y2 y3 y4 y5 y6 y7 y8 y9 y10 y11 y12 y13 y14 y15, LeO (config_station.j0 k y0 y1 y2 y3 y4 y5 y6 y7 y8 y9 y10 y11 y12 y13 y14 y15) (config_station.j0 (k + 1) y0 y1 y2 y3 y4 y5 y6 y7 y8 y9 y10 y11 y12 y13 y14 y15))
 | 0 => fun _ _ _ _ _ _ _ _ _ _ _ _ _ _ _ _ r h => by simp [config_station.j0] at h
 | k + 1 => by
  have ih0 := config_station.mono_l k
  ·intro y0 y1 y2 y3 y4 y5 y6 y7 y8 y9 y10 y11 y12 y13 y14 y15
   unfold config_station.j0
   repeat' first
   | (with_reducible exact ih0 _ _ _ _ _ _ _ _ _ _ _ _ _ _ _ _)
   | (with_reducible exact image_Lay.mono _ _ _ _)
   | (with_reducible exact image_Reach.mono _ _ _)
   | (with_reducible exact LeO.refl _)
   | (with_reducible exact LeO.none _)
   | (with_reducible refine LeO.ite ?_ ?_)
   | (with_reducible refine LeO.bind ?_ (fun _ => ?_))
   | exact ih0 _ _ _ _ _ _ _ _ _ _ _ _ _ _ _ _
   | exact image_Lay.mono _ _ _ _
   | exact image_Reach.mono _ _ _
   | exact LeO.none _
   | refine LeO.ite ?_ ?_
   | refine LeO.bind ?_ (fun _ => ?_)
theorem config_station.mono : ∀ a0 a1 a2 a3 a4 a5 a6 a7 a8 k, LeO (config_station.f k a0 a1 a2 a3 a4 a5 a6 a7 a8) (config_station.f (k + 1) a0 a1 a2 a3 a4 a5 a6 a7 a8) := by
 intro a0 a1 a2 a3 a4 a5 a6 a7 a8 k
 have ih0 := config_station.mono_l k
 unfold config_station.f
 repeat' first
   | (with_reducible exact ih0 _ _ _ _ _ _ _ _ _ _ _ _ _ _ _ _)
   | (with_reducible exact image_Lay.mono _ _ _ _)
   | (with_reducible exact image_Reach.mono _ _ _)
   | (with_reducible exact LeO.refl _)
   | (with_reducible exact LeO.none _)
   | (with_reducible refine LeO.ite ?_ ?_)
   | (with_reducible refine LeO.bind ?_ (fun _ => ?_))
   | exact ih0 _ _ _ _ _ _ _ _ _ _ _ _ _ _ _ _
   | exact image_Lay.mono _ _ _ _
   | exact image_Reach.mono _ _ _
   | exact LeO.none _
   | refine LeO.ite ?_ ?_
   | refine LeO.bind ?_ (fun _ => ?_)
set_option maxHeartbeats 8000000 in
set_option maxRecDepth 100000 in
theorem config_station.calls (k : Nat) (a0_0 : Int) (a0_1 : Int) (a0_2 : Int) (a0_3 : Int) (a0_4 : Int) (a0_5 : Int) (A0_6 : Option Addr) (c0_6 : Nat) (l0_6 : List (S63)) (A0_7 : Option Addr) (c0_7 : Nat) (l0_7 : List (S37)) (a1 : Int) (r : Int) (w : World) (hr0_6 : Kd.C k63 w A0_6 l0_6.length l0_6) (hc0_6 : l0_6.length ≤ c0_6) (hr0_7 : Kd.C k37 w A0_7 l0_7.length l0_7) (hc0_7 : l0_7.length ≤ c0_7) (h : config_station.f k a0_0 a0_1 a0_2 a0_3 a0_4 a0_5 l0_6 l0_7 a1 = some r) :
  Calls Try.prog 22 #[.agg #[.int .i64 a0_0, .int .i64 a0_1, .int .i64 a0_2, .int .i64 a0_3, .int .i64 a0_4, .int .i64 a0_5, .slice A0_6 l0_6.length c0_6, .slice A0_7 l0_7.length c0_7], .int .i64 a1] w fun e w' => e = .returned (.int .i64 r) ∧ Below w.heap.size w w' := by
 have hu25 := Try.underlying25
 have hu37 := Try.underlying37
 have HR0_6 := Aside0.mk hr0_6
 have HC0_6 := Aside0.mk hc0_6
 clear hr0_6 hc0_6
 have HR0_7 := Aside0.mk hr0_7
 have HC0_7 := Aside0.mk hc0_7
 clear hr0_7 hc0_7
 have HB := Aside0.mk (Below.refl w.heap.size w)
 have H : (if 0 ≤ a1 then (if a1 < (l0_7.length : Int) then ((config_in.f ((rd_T37 l0_7 a1).f0) 0 a0_5).bind fun t134 => (if t134 = true then ((config_in.f ((rd_T37 l0_7 a1).f1) 1 1000).bind fun t135 => (config_station.j0 k a1 (!t135) a0_0 a0_1 a0_2 a0_3 a0_4 a0_5 l0_6 l0_7 ((rd_T37 l0_7 a1).f0) ((rd_T37 l0_7 a1).f1) ((rd_T37 l0_7 a1).f2) ((rd_T37 l0_7 a1).f3) ((rd_T37 l0_7 a1).f4) ((rd_T37 l0_7 a1).f5))) else (config_station.j0 k a1 true a0_0 a0_1 a0_2 a0_3 a0_4 a0_5 l0_6 l0_7 ((rd_T37 l0_7 a1).f0) ((rd_T37 l0_7 a1).f1) ((rd_T37 l0_7 a1).f2) ((rd_T37 l0_7 a1).f3) ((rd_T37 l0_7 a1).f4) ((rd_T37 l0_7 a1).f5)))) else (none)) else (none)) = some r := h
 clear h
 by_cases c3 : 0 ≤ a1
 case neg =>
  rw [if_neg c3] at H
  exact absurd H (by simp)
 rw [if_pos c3] at H
 have c3b0 : decide (0 ≤ a1) = true := decide_eq_true c3
 clear c3
 by_cases c4 : a1 < (l0_7.length : Int)
 case neg =>
  rw [if_neg c4] at H
  exact absurd H (by simp)
 rw [if_pos c4] at H
 have c4b0 : decide (a1 < (l0_7.length : Int)) = true := decide_eq_true c4
 clear c4
 have HC5 := Aside0.mk H
 clear H
 go_enter Try.func22, Try.ntmps22
 go_upto_region 2 with (first | ((with_reducible refine gate_dst (N := 2) rfl ?_); refine boxK (N := 2) (#[.int .i64 a0_0, .int .i64 a0_1, .int .i64 a0_2, .int .i64 a0_3, .int .i64 a0_4, .int .i64 a0_5, .slice A0_6 l0_6.length c0_6, .slice A0_7 l0_7.length c0_7]) 25 ?_; intro gb131 hg w6 hbox hb; have BK131 := Aside0.mk (hbox); have GW131 := sG hg HB; have GE131 := sG hg HB; replace HB := sB HB hb; clear hb hbox hg; obtain ⟨z7_0, z7_1, z7_2, z7_3, z7_4, z7_5, z7_6, z7_7, q7_0, q7_1, q7_2, q7_3, q7_4, q7_5, q7_6, q7_7⟩ := bk8 BK131; have p132 : 0 ≤ (a1 : Int) := of_decide_eq_true (by first | (with_reducible assumption) | assumption); have q132 : a1 < (l0_7.length : Int) := of_decide_eq_true (by first | (with_reducible assumption) | assumption); obtain ⟨ad132, A132_3, c132_3, A132_4, c132_4, A132_5, c132_5, e132, hx132_0, hx132_1, hx132_2, hx132_3, hx132_4, hx132_5, hl132_3, hi132_3, hl132_4, hi132_4, hl132_5, hi132_5⟩ := at_T37 HR0_7.out a1 p132 q132; cases e132; replace hx132_0 := (HB.out.cell (World.block_lt_of_cell? w _ hx132_0)).trans hx132_0; replace hx132_1 := (HB.out.cell (World.block_lt_of_cell? w _ hx132_1)).trans hx132_1; replace hx132_2 := (HB.out.cell (World.block_lt_of_cell? w _ hx132_2)).trans hx132_2; replace hx132_3 := (HB.out.cell (World.block_lt_of_cell? w _ hx132_3)).trans hx132_3; replace hx132_4 := (HB.out.cell (World.block_lt_of_cell? w _ hx132_4)).trans hx132_4; replace hx132_5 := (HB.out.cell (World.block_lt_of_cell? w _ hx132_5)).trans hx132_5; have HR132_3 := Aside0.mk hi132_3; have HC132_3 := Aside0.mk hl132_3; clear hi132_3 hl132_3; have HR132_4 := Aside0.mk hi132_4; have HC132_4 := Aside0.mk hl132_4; clear hi132_4 hl132_4; have HR132_5 := Aside0.mk hi132_5; have HC132_5 := Aside0.mk hl132_5; clear hi132_5 hl132_5; replace p132 := eq_true p132; replace q132 := eq_true q132) | ((with_reducible refine gate_dst (N := 5) rfl ?_); refine boxK (N := 5) (#[.int .i64 0, .int .i64 0, .int .i64 0, .slice none 0 0, .slice none 0 0, .slice none 0 0]) 37 ?_; intro gb133 hg w8 hbox hb; have BK133 := Aside0.mk (hbox); have GW133 := sG hg HB; have GE133 := sG hg HB; replace HB := sB HB hb; have NB131_133 := sNl hg BK131; have NB133_131 := sNg hg BK131; replace BK131 := sK BK131 hb; clear hb hbox hg; have hnb9 := NB133_131.out; have hnc9 := NB131_133.out; obtain ⟨z10_0, z10_1, z10_2, z10_3, z10_4, z10_5, q10_0, q10_1, q10_2, q10_3, q10_4, q10_5⟩ := bk6 BK133))
 (try simp only [Act.put, List.setIfInBounds_toArray, List.set_cons_zero, List.set_cons_succ])
 go_cut [17] (fun v17 wc => ∃ (kq : Nat) (x17_4 : Bool), v17 = .bool x17_4 ∧ Aside0 (config_station.j0 kq a1 x17_4 a0_0 a0_1 a0_2 a0_3 a0_4 a0_5 l0_6 l0_7 ((rd_T37 l0_7 a1).f0) ((rd_T37 l0_7 a1).f1) ((rd_T37 l0_7 a1).f2) ((rd_T37 l0_7 a1).f3) ((rd_T37 l0_7 a1).f4) ((rd_T37 l0_7 a1).f5) = some r) ∧ Aside0 (kq ≤ k) ∧ Aside0 (wc.heap[gb131]? = some (.cells #[.int .i64 a0_0, .int .i64 a0_1, .int .i64 a0_2, .int .i64 a0_3, .int .i64 a0_4, .int .i64 a0_5, (.slice A0_6 l0_6.length c0_6), (.slice (some ad132) l0_7.length c0_7)] 25 (0, 0))) ∧ Aside0 (wc.heap[gb133]? = some (.cells #[.int .i64 ((rd_T37 l0_7 a1).f0), .int .i64 ((rd_T37 l0_7 a1).f1), .int .i64 ((rd_T37 l0_7 a1).f2), (.slice A132_3 ((rd_T37 l0_7 a1).f3).length c132_3), (.slice A132_4 ((rd_T37 l0_7 a1).f4).length c132_4), (.slice A132_5 ((rd_T37 l0_7 a1).f5).length c132_5)] 37 (0, 0))) ∧ Aside0 (Below w.heap.size w wc))
 case first =>
  have H := HC5.out
  clear HC5
  replace H := Option.bind_eq_some_iff.mp H
  obtain ⟨t134, A110, H⟩ := H
  replace H : (if t134 = true then ((config_in.f ((rd_T37 l0_7 a1).f1) 1 1000).bind fun t135 => (config_station.j0 k a1 (!t135) a0_0 a0_1 a0_2 a0_3 a0_4 a0_5 l0_6 l0_7 ((rd_T37 l0_7 a1).f0) ((rd_T37 l0_7 a1).f1) ((rd_T37 l0_7 a1).f2) ((rd_T37 l0_7 a1).f3) ((rd_T37 l0_7 a1).f4) ((rd_T37 l0_7 a1).f5))) else (config_station.j0 k a1 true a0_0 a0_1 a0_2 a0_3 a0_4 a0_5 l0_6 l0_7 ((rd_T37 l0_7 a1).f0) ((rd_T37 l0_7 a1).f1) ((rd_T37 l0_7 a1).f2) ((rd_T37 l0_7 a1).f3) ((rd_T37 l0_7 a1).f4) ((rd_T37 l0_7 a1).f5))) = some r := H
  have A11 := Aside0.mk A110
  clear A110
  by_cases c12 : t134 = true
  case neg =>
   replace c12 := Bool.eq_false_iff.mpr c12
   subst c12
   have H1 : (config_station.j0 k a1 true a0_0 a0_1 a0_2 a0_3 a0_4 a0_5 l0_6 l0_7 ((rd_T37 l0_7 a1).f0) ((rd_T37 l0_7 a1).f1) ((rd_T37 l0_7 a1).f2) ((rd_T37 l0_7 a1).f3) ((rd_T37 l0_7 a1).f4) ((rd_T37 l0_7 a1).f5)) = some r := by rw [if_neg (show ¬ (false = true) by decide)] at H; exact H
   clear H
   have H := H1
   clear H1
   have H' := Aside0.mk H
   clear H
   have hnb17 := NB133_131.out
   have hnc17 := NB131_133.out
   obtain ⟨z18_0, z18_1, z18_2, z18_3, z18_4, z18_5, q18_0, q18_1, q18_2, q18_3, q18_4, q18_5⟩ := bk6 BK133
   obtain ⟨z19_0, z19_1, z19_2, z19_3, z19_4, z19_5, z19_6, z19_7, q19_0, q19_1, q19_2, q19_3, q19_4, q19_5, q19_6, q19_7⟩ := bk8 BK131
   go_wp2_with (first | ((with_reducible refine gate_callee (f := 21) rfl ?_); refine goesK (some 22) Try.func21 #[.int .i64 ((rd_T37 l0_7 a1).f0), .int .i64 0, .int .i64 a0_5] ?_; (with_reducible refine (config_in.calls ((rd_T37 l0_7 a1).f0) 0 a0_5 false _ A11.out).mono ?_); rintro e w' ⟨rfl, ⟨nd, rfl⟩⟩; refine ⟨_, rfl, ?_⟩))
   go_meet
   case rel => exact ⟨_, (true), (by first | rfl | (simp; done) | (simp [*]; done)), H', ⟨by first | omega | exact Nat.le_refl _⟩, (sKq0 BK131), (sKq0 BK133), (sB0 HB)⟩
  subst c12
  have H1 : ((config_in.f ((rd_T37 l0_7 a1).f1) 1 1000).bind fun t135 => (config_station.j0 k a1 (!t135) a0_0 a0_1 a0_2 a0_3 a0_4 a0_5 l0_6 l0_7 ((rd_T37 l0_7 a1).f0) ((rd_T37 l0_7 a1).f1) ((rd_T37 l0_7 a1).f2) ((rd_T37 l0_7 a1).f3) ((rd_T37 l0_7 a1).f4) ((rd_T37 l0_7 a1).f5))) = some r := by rw [if_pos rfl] at H; exact H
  clear H
  have H := H1
  clear H1
  replace H := Option.bind_eq_some_iff.mp H
  obtain ⟨t135, A130, H⟩ := H
  replace H : (config_station.j0 k a1 (!t135) a0_0 a0_1 a0_2 a0_3 a0_4 a0_5 l0_6 l0_7 ((rd_T37 l0_7 a1).f0) ((rd_T37 l0_7 a1).f1) ((rd_T37 l0_7 a1).f2) ((rd_T37 l0_7 a1).f3) ((rd_T37 l0_7 a1).f4) ((rd_T37 l0_7 a1).f5)) = some r := H
  have A13 := Aside0.mk A130
  clear A130
  have H' := Aside0.mk H
  clear H
  have hnb14 := NB133_131.out
  have hnc14 := NB131_133.out
  obtain ⟨z15_0, z15_1, z15_2, z15_3, z15_4, z15_5, q15_0, q15_1, q15_2, q15_3, q15_4, q15_5⟩ := bk6 BK133
  obtain ⟨z16_0, z16_1, z16_2, z16_3, z16_4, z16_5, z16_6, z16_7, q16_0, q16_1, q16_2, q16_3, q16_4, q16_5, q16_6, q16_7⟩ := bk8 BK131
  go_wp2_with (first | ((with_reducible refine gate_callee (f := 21) rfl ?_); refine goesK (some 22) Try.func21 #[.int .i64 ((rd_T37 l0_7 a1).f0), .int .i64 0, .int .i64 a0_5] ?_; (with_reducible refine (config_in.calls ((rd_T37 l0_7 a1).f0) 0 a0_5 true _ A11.out).mono ?_); rintro e w' ⟨rfl, ⟨nd, rfl⟩⟩; refine ⟨_, rfl, ?_⟩) | (go_at_call 21; (with_reducible refine (config_in.calls ((rd_T37 l0_7 a1).f1) 1 1000 t135 _ A13.out).mono ?_); rintro e w' ⟨rfl, ⟨nd, rfl⟩⟩))
  go_meet
  case rel => exact ⟨_, (!t135), (by first | rfl | (simp; done) | (simp [*]; done)), H', ⟨by first | omega | exact Nat.le_refl _⟩, (sKq0 BK131), (sKq0 BK133), (sB0 HB)⟩
 clear HC5
 (try clear c3); (try clear c3b0); (try clear c4); (try clear c4b0); (try clear c12); (try clear z10_0 z10_1 z10_2 z10_3 z10_4 z10_5 q10_0 q10_1 q10_2 q10_3 q10_4 q10_5); (try clear z15_0 z15_1 z15_2 z15_3 z15_4 z15_5 q15_0 q15_1 q15_2 q15_3 q15_4 q15_5); (try clear z16_0 z16_1 z16_2 z16_3 z16_4 z16_5 z16_6 z16_7 q16_0 q16_1 q16_2 q16_3 q16_4 q16_5 q16_6 q16_7); (try clear z18_0 z18_1 z18_2 z18_3 z18_4 z18_5 q18_0 q18_1 q18_2 q18_3 q18_4 q18_5); (try clear z19_0 z19_1 z19_2 z19_3 z19_4 z19_5 z19_6 z19_7 q19_0 q19_1 q19_2 q19_3 q19_4 q19_5 q19_6 q19_7); (try clear z7_0 z7_1 z7_2 z7_3 z7_4 z7_5 z7_6 z7_7 q7_0 q7_1 q7_2 q7_3 q7_4 q7_5 q7_6 q7_7); (try clear hx132_0); (try clear hx132_1); (try clear hx132_2); (try clear hx132_3); (try clear hx132_4); (try clear hx132_5); (try clear p132); (try clear q132)
 obtain ⟨kq, x17_4, rfl, HA, HJ4, BK131, BK133, HB⟩ := hcut
 cases kq with
 | zero => exact absurd HA.out (by simp [config_station.j0])
 | succ kj4 =>
  have H := HA.out
  clear HA
  simp only [config_station.j0] at H
  by_cases c20 : x17_4 = true
  ·subst c20
   have H1 : (some 3) = some r := by rw [if_pos rfl] at H; exact H
   clear H
   have H := H1
   clear H1
   obtain rfl := Option.some.inj H
   go_wp2
   go_ret
   exact sEnd HB
  ·replace c20 := Bool.eq_false_iff.mpr c20
   subst c20
   have H1 : ((config_place.f a0_0 a0_1 a0_2 a0_3 a0_4 a0_5 l0_6 l0_7 ((rd_T37 l0_7 a1).f0)).bind fun t136 => (if t136 < a1 then (some 14) else ((image_Lay.f kj4 ((rd_T37 l0_7 a1).f2) ((rd_T37 l0_7 a1).f4) l0_6).bind fun bt137 => (if bt137.1 = 0 then ((verify_Check.f ((rd_T37 l0_7 a1).f3)).bind fun bt139 => (if bt139.1 = 0 then ((image_Reach.f kj4 ((rd_T37 l0_7 a1).f5) l0_6).bind fun bt141 => (if bt141.1 = 0 then ((config_owns.f a0_0 a0_1 a0_2 a0_3 a0_4 a0_5 l0_6 l0_7 ((rd_T37 l0_7 a1).f0) ((rd_T37 l0_7 a1).f1) ((rd_T37 l0_7 a1).f2) ((rd_T37 l0_7 a1).f3) ((rd_T37 l0_7 a1).f4) ((rd_T37 l0_7 a1).f5)).bind fun t143 => (if t143 = true then (some 0) else (some 5))) else (some bt141.1))) else (some bt139.1))) else (some bt137.1))))) = some r := by rw [if_neg (show ¬ (false = true) by decide)] at H; exact H
   clear H
   have H := H1
   clear H1
   replace H := Option.bind_eq_some_iff.mp H
   obtain ⟨t136, A210, H⟩ := H
   replace H : (if t136 < a1 then (some 14) else ((image_Lay.f kj4 ((rd_T37 l0_7 a1).f2) ((rd_T37 l0_7 a1).f4) l0_6).bind fun bt137 => (if bt137.1 = 0 then ((verify_Check.f ((rd_T37 l0_7 a1).f3)).bind fun bt139 => (if bt139.1 = 0 then ((image_Reach.f kj4 ((rd_T37 l0_7 a1).f5) l0_6).bind fun bt141 => (if bt141.1 = 0 then ((config_owns.f a0_0 a0_1 a0_2 a0_3 a0_4 a0_5 l0_6 l0_7 ((rd_T37 l0_7 a1).f0) ((rd_T37 l0_7 a1).f1) ((rd_T37 l0_7 a1).f2) ((rd_T37 l0_7 a1).f3) ((rd_T37 l0_7 a1).f4) ((rd_T37 l0_7 a1).f5)).bind fun t143 => (if t143 = true then (some 0) else (some 5))) else (some bt141.1))) else (some bt139.1))) else (some bt137.1)))) = some r := H
   have A21 := Aside0.mk A210
   clear A210
   by_cases c22 : t136 < a1
   ·rw [if_pos c22] at H
    have c22b0 : decide (t136 < a1) = true := decide_eq_true c22
    clear c22
    obtain rfl := Option.some.inj H
    have hnb23 := NB131_133.out
    have hnc23 := NB133_131.out
    obtain ⟨z24_0, z24_1, z24_2, z24_3, z24_4, z24_5, z24_6, z24_7, q24_0, q24_1, q24_2, q24_3, q24_4, q24_5, q24_6, q24_7⟩ := bk8 BK131
    obtain ⟨z25_0, z25_1, z25_2, z25_3, z25_4, z25_5, q25_0, q25_1, q25_2, q25_3, q25_4, q25_5⟩ := bk6 BK133
    go_wp2_with (first | ((with_reducible refine gate_callee (f := 26) rfl ?_); refine goesK (some 34) Try.func26 #[.agg #[.int .i64 a0_0, .int .i64 a0_1, .int .i64 a0_2, .int .i64 a0_3, .int .i64 a0_4, .int .i64 a0_5, .slice A0_6 l0_6.length c0_6, .slice (some ad132) l0_7.length c0_7], .int .i64 ((rd_T37 l0_7 a1).f0)] ?_; (with_reducible refine (config_place.calls a0_0 a0_1 a0_2 a0_3 a0_4 a0_5 _ _ l0_6 _ _ l0_7 ((rd_T37 l0_7 a1).f0) t136 _ ?side1 ?side2 ?side3 ?side4 A21.out).mono ?_); (case side1 => exact sC HR0_6 HB); (case side2 => exact HC0_6.out); (case side3 => exact sC HR0_7 HB); (case side4 => exact HC0_7.out); rintro e w26 ⟨rfl, hb⟩; refine ⟨_, rfl, ?_⟩; replace BK131 := sK BK131 hb; replace BK133 := sK BK133 hb; replace HB := sB HB hb; (try clear hb)))
    go_ret
    exact sEnd HB
   ·rw [if_neg c22] at H
    have c22b0 : decide (t136 < a1) = false := decide_eq_false c22
    clear c22
    replace H := Option.bind_eq_some_iff.mp H
    obtain ⟨⟨t137, t138⟩, A270, H⟩ := H
    replace H : (if t137 = 0 then ((verify_Check.f ((rd_T37 l0_7 a1).f3)).bind fun bt139 => (if bt139.1 = 0 then ((image_Reach.f kj4 ((rd_T37 l0_7 a1).f5) l0_6).bind fun bt141 => (if bt141.1 = 0 then ((config_owns.f a0_0 a0_1 a0_2 a0_3 a0_4 a0_5 l0_6 l0_7 ((rd_T37 l0_7 a1).f0) ((rd_T37 l0_7 a1).f1) ((rd_T37 l0_7 a1).f2) ((rd_T37 l0_7 a1).f3) ((rd_T37 l0_7 a1).f4) ((rd_T37 l0_7 a1).f5)).bind fun t143 => (if t143 = true then (some 0) else (some 5))) else (some bt141.1))) else (some bt139.1))) else (some t137)) = some r := H
    have A27 := Aside0.mk A270
    clear A270
    by_cases c28 : t137 = 0
    ·rw [if_pos c28] at H
     have c28b0 : (t137 == 0) = true := beq_iff_eq.mpr c28
     have c28b1 : (t137 != 0) = false := bne_eq_false_iff_eq.mpr c28
     clear c28
     replace H := Option.bind_eq_some_iff.mp H
     obtain ⟨⟨t139, t140⟩, A290, H⟩ := H
     replace H : (if t139 = 0 then ((image_Reach.f kj4 ((rd_T37 l0_7 a1).f5) l0_6).bind fun bt141 => (if bt141.1 = 0 then ((config_owns.f a0_0 a0_1 a0_2 a0_3 a0_4 a0_5 l0_6 l0_7 ((rd_T37 l0_7 a1).f0) ((rd_T37 l0_7 a1).f1) ((rd_T37 l0_7 a1).f2) ((rd_T37 l0_7 a1).f3) ((rd_T37 l0_7 a1).f4) ((rd_T37 l0_7 a1).f5)).bind fun t143 => (if t143 = true then (some 0) else (some 5))) else (some bt141.1))) else (some t139)) = some r := H
     have A29 := Aside0.mk A290
     clear A290
     by_cases c30 : t139 = 0
     ·rw [if_pos c30] at H
      have c30b0 : (t139 == 0) = true := beq_iff_eq.mpr c30
      have c30b1 : (t139 != 0) = false := bne_eq_false_iff_eq.mpr c30
      clear c30
      replace H := Option.bind_eq_some_iff.mp H
      obtain ⟨⟨t141, t142⟩, A310, H⟩ := H
      replace H : (if t141 = 0 then ((config_owns.f a0_0 a0_1 a0_2 a0_3 a0_4 a0_5 l0_6 l0_7 ((rd_T37 l0_7 a1).f0) ((rd_T37 l0_7 a1).f1) ((rd_T37 l0_7 a1).f2) ((rd_T37 l0_7 a1).f3) ((rd_T37 l0_7 a1).f4) ((rd_T37 l0_7 a1).f5)).bind fun t143 => (if t143 = true then (some 0) else (some 5))) else (some t141)) = some r := H
      have A31 := Aside0.mk A310
      clear A310
      by_cases c32 : t141 = 0
      ·rw [if_pos c32] at H
       have c32b0 : (t141 == 0) = true := beq_iff_eq.mpr c32
       have c32b1 : (t141 != 0) = false := bne_eq_false_iff_eq.mpr c32
       clear c32
       replace H := Option.bind_eq_some_iff.mp H
       obtain ⟨t143, A330, H⟩ := H
       replace H : (if t143 = true then (some 0) else (some 5)) = some r := H
       have A33 := Aside0.mk A330
       clear A330
       by_cases c34 : t143 = true
       ·subst c34
        have H1 : (some 0) = some r := by rw [if_pos rfl] at H; exact H
        clear H
        have H := H1
        clear H1
        obtain rfl := Option.some.inj H
        have hnb35 := NB131_133.out
        have hnc35 := NB133_131.out
        obtain ⟨z36_0, z36_1, z36_2, z36_3, z36_4, z36_5, z36_6, z36_7, q36_0, q36_1, q36_2, q36_3, q36_4, q36_5, q36_6, q36_7⟩ := bk8 BK131
        obtain ⟨z37_0, z37_1, z37_2, z37_3, z37_4, z37_5, q37_0, q37_1, q37_2, q37_3, q37_4, q37_5⟩ := bk6 BK133
        go_wp2_with (first | ((with_reducible refine gate_callee (f := 26) rfl ?_); refine goesK (some 34) Try.func26 #[.agg #[.int .i64 a0_0, .int .i64 a0_1, .int .i64 a0_2, .int .i64 a0_3, .int .i64 a0_4, .int .i64 a0_5, .slice A0_6 l0_6.length c0_6, .slice (some ad132) l0_7.length c0_7], .int .i64 ((rd_T37 l0_7 a1).f0)] ?_; (with_reducible refine (config_place.calls a0_0 a0_1 a0_2 a0_3 a0_4 a0_5 _ _ l0_6 _ _ l0_7 ((rd_T37 l0_7 a1).f0) t136 _ ?side1 ?side2 ?side3 ?side4 A21.out).mono ?_); (case side1 => exact sC HR0_6 HB); (case side2 => exact HC0_6.out); (case side3 => exact sC HR0_7 HB); (case side4 => exact HC0_7.out); rintro e w38 ⟨rfl, hb⟩; refine ⟨_, rfl, ?_⟩; replace BK131 := sK BK131 hb; replace BK133 := sK BK133 hb; replace HB := sB HB hb; (try clear hb); obtain ⟨z39_0, z39_1, z39_2, z39_3, z39_4, z39_5, q39_0, q39_1, q39_2, q39_3, q39_4, q39_5⟩ := bk6 BK133; obtain ⟨z40_0, z40_1, z40_2, z40_3, z40_4, z40_5, z40_6, z40_7, q40_0, q40_1, q40_2, q40_3, q40_4, q40_5, q40_6, q40_7⟩ := bk8 BK131) | ((with_reducible refine gate_callee (f := 37) rfl ?_); refine goesK (some 44) Try.func37 #[.int .i64 ((rd_T37 l0_7 a1).f2), .slice A132_4 ((rd_T37 l0_7 a1).f4).length c132_4, .slice A0_6 l0_6.length c0_6] ?_; (with_reducible refine (image_Lay.calls kj4 ((rd_T37 l0_7 a1).f2) _ _ ((rd_T37 l0_7 a1).f4) _ _ l0_6 t137 t138 _ ?side1 ?side2 ?side3 ?side4 A27.out).mono ?_); (case side1 => exact sC HR132_4 HB); (case side2 => exact HC132_4.out); (case side3 => exact sC HR0_6 HB); (case side4 => exact HC0_6.out); rintro e w41 ⟨rfl, hb⟩; refine ⟨_, rfl, ?_⟩; replace BK131 := sK BK131 hb; replace BK133 := sK BK133 hb; replace HB := sB HB hb; (try clear hb); obtain ⟨z42_0, z42_1, z42_2, z42_3, z42_4, z42_5, q42_0, q42_1, q42_2, q42_3, q42_4, q42_5⟩ := bk6 BK133) | ((with_reducible refine gate_callee (f := 38) rfl ?_); refine goesK (some 53) Try.func38 #[.slice A132_3 ((rd_T37 l0_7 a1).f3).length c132_3] ?_; (with_reducible refine (verify_Check.calls _ _ ((rd_T37 l0_7 a1).f3) t139 t140 _ ?side1 ?side2 A29.out).mono ?_); (case side1 => exact sC HR132_3 HB); (case side2 => exact HC132_3.out); rintro e w43 ⟨rfl, hb⟩; refine ⟨_, rfl, ?_⟩; replace BK131 := sK BK131 hb; replace BK133 := sK BK133 hb; replace HB := sB HB hb; (try clear hb); obtain ⟨z44_0, z44_1, z44_2, z44_3, z44_4, z44_5, q44_0, q44_1, q44_2, q44_3, q44_4, q44_5⟩ := bk6 BK133; obtain ⟨z45_0, z45_1, z45_2, z45_3, z45_4, z45_5, z45_6, z45_7, q45_0, q45_1, q45_2, q45_3, q45_4, q45_5, q45_6, q45_7⟩ := bk8 BK131) | ((with_reducible refine gate_callee (f := 39) rfl ?_); refine goesK (some 64) Try.func39 #[.slice A132_5 ((rd_T37 l0_7 a1).f5).length c132_5, .slice A0_6 l0_6.length c0_6] ?_; (with_reducible refine (image_Reach.calls kj4 _ _ ((rd_T37 l0_7 a1).f5) _ _ l0_6 t141 t142 _ ?side1 ?side2 ?side3 ?side4 A31.out).mono ?_); (case side1 => exact sC HR132_5 HB); (case side2 => exact HC132_5.out); (case side3 => exact sC HR0_6 HB); (case side4 => exact HC0_6.out); rintro e w46 ⟨rfl, hb⟩; refine ⟨_, rfl, ?_⟩; replace BK131 := sK BK131 hb; replace BK133 := sK BK133 hb; replace HB := sB HB hb; (try clear hb); obtain ⟨z47_0, z47_1, z47_2, z47_3, z47_4, z47_5, z47_6, z47_7, q47_0, q47_1, q47_2, q47_3, q47_4, q47_5, q47_6, q47_7⟩ := bk8 BK131; obtain ⟨z48_0, z48_1, z48_2, z48_3, z48_4, z48_5, q48_0, q48_1, q48_2, q48_3, q48_4, q48_5⟩ := bk6 BK133) | ((with_reducible refine gate_callee (f := 40) rfl ?_); refine goesK (some 72) Try.func40 #[.agg #[.int .i64 a0_0, .int .i64 a0_1, .int .i64 a0_2, .int .i64 a0_3, .int .i64 a0_4, .int .i64 a0_5, .slice A0_6 l0_6.length c0_6, .slice (some ad132) l0_7.length c0_7], .agg #[.int .i64 ((rd_T37 l0_7 a1).f0), .int .i64 ((rd_T37 l0_7 a1).f1), .int .i64 ((rd_T37 l0_7 a1).f2), .slice A132_3 ((rd_T37 l0_7 a1).f3).length c132_3, .slice A132_4 ((rd_T37 l0_7 a1).f4).length c132_4, .slice A132_5 ((rd_T37 l0_7 a1).f5).length c132_5]] ?_; (with_reducible refine (config_owns.calls a0_0 a0_1 a0_2 a0_3 a0_4 a0_5 _ _ l0_6 _ _ l0_7 ((rd_T37 l0_7 a1).f0) ((rd_T37 l0_7 a1).f1) ((rd_T37 l0_7 a1).f2) _ _ ((rd_T37 l0_7 a1).f3) _ _ ((rd_T37 l0_7 a1).f4) _ _ ((rd_T37 l0_7 a1).f5) true _ ?side1 ?side2 ?side3 ?side4 ?side5 ?side6 ?side7 ?side8 ?side9 ?side10 A33.out).mono ?_); (case side1 => exact sC HR0_6 HB); (case side2 => exact HC0_6.out); (case side3 => exact sC HR0_7 HB); (case side4 => exact HC0_7.out); (case side5 => exact sC HR132_3 HB); (case side6 => exact HC132_3.out); (case side7 => exact sC HR132_4 HB); (case side8 => exact HC132_4.out); (case side9 => exact sC HR132_5 HB); (case side10 => exact HC132_5.out); rintro e w49 ⟨rfl, hb⟩; refine ⟨_, rfl, ?_⟩; replace BK131 := sK BK131 hb; replace BK133 := sK BK133 hb; replace HB := sB HB hb; (try clear hb)))
        go_ret
        exact sEnd HB
       ·replace c34 := Bool.eq_false_iff.mpr c34
        subst c34
        have H1 : (some 5) = some r := by rw [if_neg (show ¬ (false = true) by decide)] at H; exact H
        clear H
        have H := H1
        clear H1
        obtain rfl := Option.some.inj H
        have hnb50 := NB131_133.out
        have hnc50 := NB133_131.out
        obtain ⟨z51_0, z51_1, z51_2, z51_3, z51_4, z51_5, z51_6, z51_7, q51_0, q51_1, q51_2, q51_3, q51_4, q51_5, q51_6, q51_7⟩ := bk8 BK131
        obtain ⟨z52_0, z52_1, z52_2, z52_3, z52_4, z52_5, q52_0, q52_1, q52_2, q52_3, q52_4, q52_5⟩ := bk6 BK133
        go_wp2_with (first | ((with_reducible refine gate_callee (f := 26) rfl ?_); refine goesK (some 34) Try.func26 #[.agg #[.int .i64 a0_0, .int .i64 a0_1, .int .i64 a0_2, .int .i64 a0_3, .int .i64 a0_4, .int .i64 a0_5, .slice A0_6 l0_6.length c0_6, .slice (some ad132) l0_7.length c0_7], .int .i64 ((rd_T37 l0_7 a1).f0)] ?_; (with_reducible refine (config_place.calls a0_0 a0_1 a0_2 a0_3 a0_4 a0_5 _ _ l0_6 _ _ l0_7 ((rd_T37 l0_7 a1).f0) t136 _ ?side1 ?side2 ?side3 ?side4 A21.out).mono ?_); (case side1 => exact sC HR0_6 HB); (case side2 => exact HC0_6.out); (case side3 => exact sC HR0_7 HB); (case side4 => exact HC0_7.out); rintro e w53 ⟨rfl, hb⟩; refine ⟨_, rfl, ?_⟩; replace BK131 := sK BK131 hb; replace BK133 := sK BK133 hb; replace HB := sB HB hb; (try clear hb); obtain ⟨z54_0, z54_1, z54_2, z54_3, z54_4, z54_5, q54_0, q54_1, q54_2, q54_3, q54_4, q54_5⟩ := bk6 BK133; obtain ⟨z55_0, z55_1, z55_2, z55_3, z55_4, z55_5, z55_6, z55_7, q55_0, q55_1, q55_2, q55_3, q55_4, q55_5, q55_6, q55_7⟩ := bk8 BK131) | ((with_reducible refine gate_callee (f := 37) rfl ?_); refine goesK (some 44) Try.func37 #[.int .i64 ((rd_T37 l0_7 a1).f2), .slice A132_4 ((rd_T37 l0_7 a1).f4).length c132_4, .slice A0_6 l0_6.length c0_6] ?_; (with_reducible refine (image_Lay.calls kj4 ((rd_T37 l0_7 a1).f2) _ _ ((rd_T37 l0_7 a1).f4) _ _ l0_6 t137 t138 _ ?side1 ?side2 ?side3 ?side4 A27.out).mono ?_); (case side1 => exact sC HR132_4 HB); (case side2 => exact HC132_4.out); (case side3 => exact sC HR0_6 HB); (case side4 => exact HC0_6.out); rintro e w56 ⟨rfl, hb⟩; refine ⟨_, rfl, ?_⟩; replace BK131 := sK BK131 hb; replace BK133 := sK BK133 hb; replace HB := sB HB hb; (try clear hb); obtain ⟨z57_0, z57_1, z57_2, z57_3, z57_4, z57_5, q57_0, q57_1, q57_2, q57_3, q57_4, q57_5⟩ := bk6 BK133) | ((with_reducible refine gate_callee (f := 38) rfl ?_); refine goesK (some 53) Try.func38 #[.slice A132_3 ((rd_T37 l0_7 a1).f3).length c132_3] ?_; (with_reducible refine (verify_Check.calls _ _ ((rd_T37 l0_7 a1).f3) t139 t140 _ ?side1 ?side2 A29.out).mono ?_); (case side1 => exact sC HR132_3 HB); (case side2 => exact HC132_3.out); rintro e w58 ⟨rfl, hb⟩; refine ⟨_, rfl, ?_⟩; replace BK131 := sK BK131 hb; replace BK133 := sK BK133 hb; replace HB := sB HB hb; (try clear hb); obtain ⟨z59_0, z59_1, z59_2, z59_3, z59_4, z59_5, q59_0, q59_1, q59_2, q59_3, q59_4, q59_5⟩ := bk6 BK133; obtain ⟨z60_0, z60_1, z60_2, z60_3, z60_4, z60_5, z60_6, z60_7, q60_0, q60_1, q60_2, q60_3, q60_4, q60_5, q60_6, q60_7⟩ := bk8 BK131) | ((with_reducible refine gate_callee (f := 39) rfl ?_); refine goesK (some 64) Try.func39 #[.slice A132_5 ((rd_T37 l0_7 a1).f5).length c132_5, .slice A0_6 l0_6.length c0_6] ?_; (with_reducible refine (image_Reach.calls kj4 _ _ ((rd_T37 l0_7 a1).f5) _ _ l0_6 t141 t142 _ ?side1 ?side2 ?side3 ?side4 A31.out).mono ?_); (case side1 => exact sC HR132_5 HB); (case side2 => exact HC132_5.out); (case side3 => exact sC HR0_6 HB); (case side4 => exact HC0_6.out); rintro e w61 ⟨rfl, hb⟩; refine ⟨_, rfl, ?_⟩; replace BK131 := sK BK131 hb; replace BK133 := sK BK133 hb; replace HB := sB HB hb; (try clear hb); obtain ⟨z62_0, z62_1, z62_2, z62_3, z62_4, z62_5, z62_6, z62_7, q62_0, q62_1, q62_2, q62_3, q62_4, q62_5, q62_6, q62_7⟩ := bk8 BK131; obtain ⟨z63_0, z63_1, z63_2, z63_3, z63_4, z63_5, q63_0, q63_1, q63_2, q63_3, q63_4, q63_5⟩ := bk6 BK133) | ((with_reducible refine gate_callee (f := 40) rfl ?_); refine goesK (some 72) Try.func40 #[.agg #[.int .i64 a0_0, .int .i64 a0_1, .int .i64 a0_2, .int .i64 a0_3, .int .i64 a0_4, .int .i64 a0_5, .slice A0_6 l0_6.length c0_6, .slice (some ad132) l0_7.length c0_7], .agg #[.int .i64 ((rd_T37 l0_7 a1).f0), .int .i64 ((rd_T37 l0_7 a1).f1), .int .i64 ((rd_T37 l0_7 a1).f2), .slice A132_3 ((rd_T37 l0_7 a1).f3).length c132_3, .slice A132_4 ((rd_T37 l0_7 a1).f4).length c132_4, .slice A132_5 ((rd_T37 l0_7 a1).f5).length c132_5]] ?_; (with_reducible refine (config_owns.calls a0_0 a0_1 a0_2 a0_3 a0_4 a0_5 _ _ l0_6 _ _ l0_7 ((rd_T37 l0_7 a1).f0) ((rd_T37 l0_7 a1).f1) ((rd_T37 l0_7 a1).f2) _ _ ((rd_T37 l0_7 a1).f3) _ _ ((rd_T37 l0_7 a1).f4) _ _ ((rd_T37 l0_7 a1).f5) false _ ?side1 ?side2 ?side3 ?side4 ?side5 ?side6 ?side7 ?side8 ?side9 ?side10 A33.out).mono ?_); (case side1 => exact sC HR0_6 HB); (case side2 => exact HC0_6.out); (case side3 => exact sC HR0_7 HB); (case side4 => exact HC0_7.out); (case side5 => exact sC HR132_3 HB); (case side6 => exact HC132_3.out); (case side7 => exact sC HR132_4 HB); (case side8 => exact HC132_4.out); (case side9 => exact sC HR132_5 HB); (case side10 => exact HC132_5.out); rintro e w64 ⟨rfl, hb⟩; refine ⟨_, rfl, ?_⟩; replace BK131 := sK BK131 hb; replace BK133 := sK BK133 hb; replace HB := sB HB hb; (try clear hb)))
        go_ret
        exact sEnd HB
      ·rw [if_neg c32] at H
       have c32b0 : (t141 == 0) = false := beq_eq_false_iff_ne.mpr c32
       have c32b1 : (t141 != 0) = true := bne_iff_ne.mpr c32
       obtain rfl := Option.some.inj H
       have hnb65 := NB131_133.out
       have hnc65 := NB133_131.out
       obtain ⟨z66_0, z66_1, z66_2, z66_3, z66_4, z66_5, z66_6, z66_7, q66_0, q66_1, q66_2, q66_3, q66_4, q66_5, q66_6, q66_7⟩ := bk8 BK131
       obtain ⟨z67_0, z67_1, z67_2, z67_3, z67_4, z67_5, q67_0, q67_1, q67_2, q67_3, q67_4, q67_5⟩ := bk6 BK133
       go_wp2_with (first | ((with_reducible refine gate_callee (f := 26) rfl ?_); refine goesK (some 34) Try.func26 #[.agg #[.int .i64 a0_0, .int .i64 a0_1, .int .i64 a0_2, .int .i64 a0_3, .int .i64 a0_4, .int .i64 a0_5, .slice A0_6 l0_6.length c0_6, .slice (some ad132) l0_7.length c0_7], .int .i64 ((rd_T37 l0_7 a1).f0)] ?_; (with_reducible refine (config_place.calls a0_0 a0_1 a0_2 a0_3 a0_4 a0_5 _ _ l0_6 _ _ l0_7 ((rd_T37 l0_7 a1).f0) t136 _ ?side1 ?side2 ?side3 ?side4 A21.out).mono ?_); (case side1 => exact sC HR0_6 HB); (case side2 => exact HC0_6.out); (case side3 => exact sC HR0_7 HB); (case side4 => exact HC0_7.out); rintro e w68 ⟨rfl, hb⟩; refine ⟨_, rfl, ?_⟩; replace BK131 := sK BK131 hb; replace BK133 := sK BK133 hb; replace HB := sB HB hb; (try clear hb); obtain ⟨z69_0, z69_1, z69_2, z69_3, z69_4, z69_5, q69_0, q69_1, q69_2, q69_3, q69_4, q69_5⟩ := bk6 BK133; obtain ⟨z70_0, z70_1, z70_2, z70_3, z70_4, z70_5, z70_6, z70_7, q70_0, q70_1, q70_2, q70_3, q70_4, q70_5, q70_6, q70_7⟩ := bk8 BK131) | ((with_reducible refine gate_callee (f := 37) rfl ?_); refine goesK (some 44) Try.func37 #[.int .i64 ((rd_T37 l0_7 a1).f2), .slice A132_4 ((rd_T37 l0_7 a1).f4).length c132_4, .slice A0_6 l0_6.length c0_6] ?_; (with_reducible refine (image_Lay.calls kj4 ((rd_T37 l0_7 a1).f2) _ _ ((rd_T37 l0_7 a1).f4) _ _ l0_6 t137 t138 _ ?side1 ?side2 ?side3 ?side4 A27.out).mono ?_); (case side1 => exact sC HR132_4 HB); (case side2 => exact HC132_4.out); (case side3 => exact sC HR0_6 HB); (case side4 => exact HC0_6.out); rintro e w71 ⟨rfl, hb⟩; refine ⟨_, rfl, ?_⟩; replace BK131 := sK BK131 hb; replace BK133 := sK BK133 hb; replace HB := sB HB hb; (try clear hb); obtain ⟨z72_0, z72_1, z72_2, z72_3, z72_4, z72_5, q72_0, q72_1, q72_2, q72_3, q72_4, q72_5⟩ := bk6 BK133) | ((with_reducible refine gate_callee (f := 38) rfl ?_); refine goesK (some 53) Try.func38 #[.slice A132_3 ((rd_T37 l0_7 a1).f3).length c132_3] ?_; (with_reducible refine (verify_Check.calls _ _ ((rd_T37 l0_7 a1).f3) t139 t140 _ ?side1 ?side2 A29.out).mono ?_); (case side1 => exact sC HR132_3 HB); (case side2 => exact HC132_3.out); rintro e w73 ⟨rfl, hb⟩; refine ⟨_, rfl, ?_⟩; replace BK131 := sK BK131 hb; replace BK133 := sK BK133 hb; replace HB := sB HB hb; (try clear hb); obtain ⟨z74_0, z74_1, z74_2, z74_3, z74_4, z74_5, q74_0, q74_1, q74_2, q74_3, q74_4, q74_5⟩ := bk6 BK133; obtain ⟨z75_0, z75_1, z75_2, z75_3, z75_4, z75_5, z75_6, z75_7, q75_0, q75_1, q75_2, q75_3, q75_4, q75_5, q75_6, q75_7⟩ := bk8 BK131) | ((with_reducible refine gate_callee (f := 39) rfl ?_); refine goesK (some 64) Try.func39 #[.slice A132_5 ((rd_T37 l0_7 a1).f5).length c132_5, .slice A0_6 l0_6.length c0_6] ?_; (with_reducible refine (image_Reach.calls kj4 _ _ ((rd_T37 l0_7 a1).f5) _ _ l0_6 t141 t142 _ ?side1 ?side2 ?side3 ?side4 A31.out).mono ?_); (case side1 => exact sC HR132_5 HB); (case side2 => exact HC132_5.out); (case side3 => exact sC HR0_6 HB); (case side4 => exact HC0_6.out); rintro e w76 ⟨rfl, hb⟩; refine ⟨_, rfl, ?_⟩; replace BK131 := sK BK131 hb; replace BK133 := sK BK133 hb; replace HB := sB HB hb; (try clear hb)))
       go_ret
       exact sEnd HB
     ·rw [if_neg c30] at H
      have c30b0 : (t139 == 0) = false := beq_eq_false_iff_ne.mpr c30
      have c30b1 : (t139 != 0) = true := bne_iff_ne.mpr c30
      obtain rfl := Option.some.inj H
      have hnb77 := NB131_133.out
      have hnc77 := NB133_131.out
      obtain ⟨z78_0, z78_1, z78_2, z78_3, z78_4, z78_5, z78_6, z78_7, q78_0, q78_1, q78_2, q78_3, q78_4, q78_5, q78_6, q78_7⟩ := bk8 BK131
      obtain ⟨z79_0, z79_1, z79_2, z79_3, z79_4, z79_5, q79_0, q79_1, q79_2, q79_3, q79_4, q79_5⟩ := bk6 BK133
      go_wp2_with (first | ((with_reducible refine gate_callee (f := 26) rfl ?_); refine goesK (some 34) Try.func26 #[.agg #[.int .i64 a0_0, .int .i64 a0_1, .int .i64 a0_2, .int .i64 a0_3, .int .i64 a0_4, .int .i64 a0_5, .slice A0_6 l0_6.length c0_6, .slice (some ad132) l0_7.length c0_7], .int .i64 ((rd_T37 l0_7 a1).f0)] ?_; (with_reducible refine (config_place.calls a0_0 a0_1 a0_2 a0_3 a0_4 a0_5 _ _ l0_6 _ _ l0_7 ((rd_T37 l0_7 a1).f0) t136 _ ?side1 ?side2 ?side3 ?side4 A21.out).mono ?_); (case side1 => exact sC HR0_6 HB); (case side2 => exact HC0_6.out); (case side3 => exact sC HR0_7 HB); (case side4 => exact HC0_7.out); rintro e w80 ⟨rfl, hb⟩; refine ⟨_, rfl, ?_⟩; replace BK131 := sK BK131 hb; replace BK133 := sK BK133 hb; replace HB := sB HB hb; (try clear hb); obtain ⟨z81_0, z81_1, z81_2, z81_3, z81_4, z81_5, q81_0, q81_1, q81_2, q81_3, q81_4, q81_5⟩ := bk6 BK133; obtain ⟨z82_0, z82_1, z82_2, z82_3, z82_4, z82_5, z82_6, z82_7, q82_0, q82_1, q82_2, q82_3, q82_4, q82_5, q82_6, q82_7⟩ := bk8 BK131) | ((with_reducible refine gate_callee (f := 37) rfl ?_); refine goesK (some 44) Try.func37 #[.int .i64 ((rd_T37 l0_7 a1).f2), .slice A132_4 ((rd_T37 l0_7 a1).f4).length c132_4, .slice A0_6 l0_6.length c0_6] ?_; (with_reducible refine (image_Lay.calls kj4 ((rd_T37 l0_7 a1).f2) _ _ ((rd_T37 l0_7 a1).f4) _ _ l0_6 t137 t138 _ ?side1 ?side2 ?side3 ?side4 A27.out).mono ?_); (case side1 => exact sC HR132_4 HB); (case side2 => exact HC132_4.out); (case side3 => exact sC HR0_6 HB); (case side4 => exact HC0_6.out); rintro e w83 ⟨rfl, hb⟩; refine ⟨_, rfl, ?_⟩; replace BK131 := sK BK131 hb; replace BK133 := sK BK133 hb; replace HB := sB HB hb; (try clear hb); obtain ⟨z84_0, z84_1, z84_2, z84_3, z84_4, z84_5, q84_0, q84_1, q84_2, q84_3, q84_4, q84_5⟩ := bk6 BK133) | ((with_reducible refine gate_callee (f := 38) rfl ?_); refine goesK (some 53) Try.func38 #[.slice A132_3 ((rd_T37 l0_7 a1).f3).length c132_3] ?_; (with_reducible refine (verify_Check.calls _ _ ((rd_T37 l0_7 a1).f3) t139 t140 _ ?side1 ?side2 A29.out).mono ?_); (case side1 => exact sC HR132_3 HB); (case side2 => exact HC132_3.out); rintro e w85 ⟨rfl, hb⟩; refine ⟨_, rfl, ?_⟩; replace BK131 := sK BK131 hb; replace BK133 := sK BK133 hb; replace HB := sB HB hb; (try clear hb)))
      go_ret
      exact sEnd HB
    ·rw [if_neg c28] at H
     have c28b0 : (t137 == 0) = false := beq_eq_false_iff_ne.mpr c28
     have c28b1 : (t137 != 0) = true := bne_iff_ne.mpr c28
     obtain rfl := Option.some.inj H
     have hnb86 := NB131_133.out
     have hnc86 := NB133_131.out
     obtain ⟨z87_0, z87_1, z87_2, z87_3, z87_4, z87_5, z87_6, z87_7, q87_0, q87_1, q87_2, q87_3, q87_4, q87_5, q87_6, q87_7⟩ := bk8 BK131
     obtain ⟨z88_0, z88_1, z88_2, z88_3, z88_4, z88_5, q88_0, q88_1, q88_2, q88_3, q88_4, q88_5⟩ := bk6 BK133
     go_wp2_with (first | ((with_reducible refine gate_callee (f := 26) rfl ?_); refine goesK (some 34) Try.func26 #[.agg #[.int .i64 a0_0, .int .i64 a0_1, .int .i64 a0_2, .int .i64 a0_3, .int .i64 a0_4, .int .i64 a0_5, .slice A0_6 l0_6.length c0_6, .slice (some ad132) l0_7.length c0_7], .int .i64 ((rd_T37 l0_7 a1).f0)] ?_; (with_reducible refine (config_place.calls a0_0 a0_1 a0_2 a0_3 a0_4 a0_5 _ _ l0_6 _ _ l0_7 ((rd_T37 l0_7 a1).f0) t136 _ ?side1 ?side2 ?side3 ?side4 A21.out).mono ?_); (case side1 => exact sC HR0_6 HB); (case side2 => exact HC0_6.out); (case side3 => exact sC HR0_7 HB); (case side4 => exact HC0_7.out); rintro e w89 ⟨rfl, hb⟩; refine ⟨_, rfl, ?_⟩; replace BK131 := sK BK131 hb; replace BK133 := sK BK133 hb; replace HB := sB HB hb; (try clear hb); obtain ⟨z90_0, z90_1, z90_2, z90_3, z90_4, z90_5, q90_0, q90_1, q90_2, q90_3, q90_4, q90_5⟩ := bk6 BK133; obtain ⟨z91_0, z91_1, z91_2, z91_3, z91_4, z91_5, z91_6, z91_7, q91_0, q91_1, q91_2, q91_3, q91_4, q91_5, q91_6, q91_7⟩ := bk8 BK131) | ((with_reducible refine gate_callee (f := 37) rfl ?_); refine goesK (some 44) Try.func37 #[.int .i64 ((rd_T37 l0_7 a1).f2), .slice A132_4 ((rd_T37 l0_7 a1).f4).length c132_4, .slice A0_6 l0_6.length c0_6] ?_; (with_reducible refine (image_Lay.calls kj4 ((rd_T37 l0_7 a1).f2) _ _ ((rd_T37 l0_7 a1).f4) _ _ l0_6 t137 t138 _ ?side1 ?side2 ?side3 ?side4 A27.out).mono ?_); (case side1 => exact sC HR132_4 HB); (case side2 => exact HC132_4.out); (case side3 => exact sC HR0_6 HB); (case side4 => exact HC0_6.out); rintro e w92 ⟨rfl, hb⟩; refine ⟨_, rfl, ?_⟩; replace BK131 := sK BK131 hb; replace BK133 := sK BK133 hb; replace HB := sB HB hb; (try clear hb)))
     go_ret
     exact sEnd HB

/-! ### config_Check: function 8 -/
def config_Check.l0 : Nat → Int → Int → Int → Int → Int → Int → Int → Int → List (S63) → List (S37) → Option (Int × Int)
 | 0, _, _, _, _, _, _, _, _, _, _ => none
 | k + 1, x29, x30, x145000, x145001, x145002, x145003, x145004, x145005, x145006, x145007 => if x30 < x29 then ((config_station.f k x145000 x145001 x145002 x145003 x145004 x145005 x145006 x145007 x30).bind fun t149 => (if t149 = 0 then (config_Check.l0 k x29 (wrap64 (x30 + 1)) x145000 x145001 x145002 x145003 x145004 x145005 x145006 x145007) else (some (t149, wrap64 (100 + x30))))) else (some (0, 0))
def config_Check.f (k : Nat) (a0_0 : Int) (a0_1 : Int) (a0_2 : Int) (a0_3 : Int) (a0_4 : Int) (a0_5 : Int) (l0_6 : List (S63)) (l0_7 : List (S37)) : Option (Int × Int) := (config_numbers.f a0_0 a0_1 a0_2 a0_3 a0_4 a0_5 l0_6 l0_7).bind fun t145 => (if t145 = true then ((blocks_Check.f k l0_6).bind fun bt146 => (if bt146.1 = 0 then ((config_in.f (l0_7.length : Int) 1 32).bind fun t148 => (if t148 = true then (config_Check.l0 k (l0_7.length : Int) 0 a0_0 a0_1 a0_2 a0_3 a0_4 a0_5 l0_6 l0_7) else (some (2, 100)))) else (some (bt146.1, wrap64 (1 + bt146.2))))) else (some (3, 0)))
theorem config_Check.mono_l : ∀ k, (∀ y0 y1 y2 y3 y4 y5 y6 y7 y8 y9, LeO (config_Check.l0 k y0 y1 y2 y3 y4 y5 y6 y7 y8 y9) (config_Check.l0 (k + 1) y0 y1 y2 y3 y4 y5 y6 y7 y8 y9))
 | 0 => fun _ _ _ _ _ _ _ _ _ _ r h => by simp [config_Check.l0] at h
 | k + 1 => by
  have ih0 := config_Check.mono_l k
  ·intro y0 y1 y2 y3 y4 y5 y6 y7 y8 y9
   unfold config_Check.l0
   repeat' first
   | (with_reducible exact ih0 _ _ _ _ _ _ _ _ _ _)
   | (with_reducible exact blocks_Check.mono _ _)
   | (with_reducible exact config_station.mono _ _ _ _ _ _ _ _ _ _)
   | (with_reducible exact LeO.refl _)
   | (with_reducible exact LeO.none _)
   | (with_reducible refine LeO.ite ?_ ?_)
   | (with_reducible refine LeO.bind ?_ (fun _ => ?_))
   | exact ih0 _ _ _ _ _ _ _ _ _ _
   | exact blocks_Check.mono _ _
   | exact config_station.mono _ _ _ _ _ _ _ _ _ _
   | exact LeO.none _
   | refine LeO.ite ?_ ?_
   | refine LeO.bind ?_ (fun _ => ?_)
theorem config_Check.mono : ∀ a0 a1 a2 a3 a4 a5 a6 a7 k, LeO (config_Check.f k a0 a1 a2 a3 a4 a5 a6 a7) (config_Check.f (k + 1) a0 a1 a2 a3 a4 a5 a6 a7) := by
 intro a0 a1 a2 a3 a4 a5 a6 a7 k
 have ih0 := config_Check.mono_l k
 unfold config_Check.f
 repeat' first
   | (with_reducible exact ih0 _ _ _ _ _ _ _ _ _ _)
   | (with_reducible exact blocks_Check.mono _ _)
   | (with_reducible exact config_station.mono _ _ _ _ _ _ _ _ _ _)
   | (with_reducible exact LeO.refl _)
   | (with_reducible exact LeO.none _)
   | (with_reducible refine LeO.ite ?_ ?_)
   | (with_reducible refine LeO.bind ?_ (fun _ => ?_))
   | exact ih0 _ _ _ _ _ _ _ _ _ _
   | exact blocks_Check.mono _ _
   | exact config_station.mono _ _ _ _ _ _ _ _ _ _
   | exact LeO.none _
   | refine LeO.ite ?_ ?_
   | refine LeO.bind ?_ (fun _ => ?_)
set_option maxHeartbeats 8000000 in
set_option maxRecDepth 100000 in
theorem config_Check.calls (k : Nat) (a0_0 : Int) (a0_1 : Int) (a0_2 : Int) (a0_3 : Int) (a0_4 : Int) (a0_5 : Int) (A0_6 : Option Addr) (c0_6 : Nat) (l0_6 : List (S63)) (A0_7 : Option Addr) (c0_7 : Nat) (l0_7 : List (S37)) (r1 : Int) (r2 : Int) (w : World) (hr0_6 : Kd.C k63 w A0_6 l0_6.length l0_6) (hc0_6 : l0_6.length ≤ c0_6) (hr0_7 : Kd.C k37 w A0_7 l0_7.length l0_7) (hc0_7 : l0_7.length ≤ c0_7) (h : config_Check.f k a0_0 a0_1 a0_2 a0_3 a0_4 a0_5 l0_6 l0_7 = some (r1, r2)) :
  Calls Try.prog 8 #[.agg #[.int .i64 a0_0, .int .i64 a0_1, .int .i64 a0_2, .int .i64 a0_3, .int .i64 a0_4, .int .i64 a0_5, .slice A0_6 l0_6.length c0_6, .slice A0_7 l0_7.length c0_7]] w fun e w' => e = .returned (.tuple #[.int .i64 r1, .int .i64 r2]) ∧ Below w.heap.size w w' := by
 have hu25 := Try.underlying25
 have HR0_6 := Aside0.mk hr0_6
 have HC0_6 := Aside0.mk hc0_6
 clear hr0_6 hc0_6
 have HR0_7 := Aside0.mk hr0_7
 have HC0_7 := Aside0.mk hc0_7
 clear hr0_7 hc0_7
 have HB := Aside0.mk (Below.refl w.heap.size w)
 have H : ((config_numbers.f a0_0 a0_1 a0_2 a0_3 a0_4 a0_5 l0_6 l0_7).bind fun t145 => (if t145 = true then ((blocks_Check.f k l0_6).bind fun bt146 => (if bt146.1 = 0 then ((config_in.f (l0_7.length : Int) 1 32).bind fun t148 => (if t148 = true then (config_Check.l0 k (l0_7.length : Int) 0 a0_0 a0_1 a0_2 a0_3 a0_4 a0_5 l0_6 l0_7) else (some (2, 100)))) else (some (bt146.1, wrap64 (1 + bt146.2))))) else (some (3, 0)))) = some (r1, r2) := h
 clear h
 replace H := Option.bind_eq_some_iff.mp H
 obtain ⟨t145, A20, H⟩ := H
 replace H : (if t145 = true then ((blocks_Check.f k l0_6).bind fun bt146 => (if bt146.1 = 0 then ((config_in.f (l0_7.length : Int) 1 32).bind fun t148 => (if t148 = true then (config_Check.l0 k (l0_7.length : Int) 0 a0_0 a0_1 a0_2 a0_3 a0_4 a0_5 l0_6 l0_7) else (some (2, 100)))) else (some (bt146.1, wrap64 (1 + bt146.2))))) else (some (3, 0))) = some (r1, r2) := H
 have A2 := Aside0.mk A20
 clear A20
 by_cases c3 : t145 = true
 case neg =>
  replace c3 := Bool.eq_false_iff.mpr c3
  subst c3
  have H1 : (some (3, 0)) = some (r1, r2) := by rw [if_neg (show ¬ (false = true) by decide)] at H; exact H
  clear H
  have H := H1
  clear H1
  simp only [Option.some.injEq, Prod.mk.injEq] at H
  obtain ⟨rfl, rfl⟩ := H
  go_enter Try.func8, Try.ntmps8
  go_wp2_with (first | ((with_reducible refine gate_dst (N := 1) rfl ?_); refine boxK (N := 1) (#[.int .i64 a0_0, .int .i64 a0_1, .int .i64 a0_2, .int .i64 a0_3, .int .i64 a0_4, .int .i64 a0_5, .slice A0_6 l0_6.length c0_6, .slice A0_7 l0_7.length c0_7]) 25 ?_; intro gb144 hg w32 hbox hb; have BK144 := Aside0.mk (hbox); have GW144 := sG hg HB; have GE144 := sG hg HB; replace HB := sB HB hb; clear hb hbox hg; obtain ⟨z33_0, z33_1, z33_2, z33_3, z33_4, z33_5, z33_6, z33_7, q33_0, q33_1, q33_2, q33_3, q33_4, q33_5, q33_6, q33_7⟩ := bk8 BK144) | ((with_reducible refine gate_callee (f := 19) rfl ?_); refine goesK (some 9) Try.func19 #[.agg #[.int .i64 a0_0, .int .i64 a0_1, .int .i64 a0_2, .int .i64 a0_3, .int .i64 a0_4, .int .i64 a0_5, .slice A0_6 l0_6.length c0_6, .slice A0_7 l0_7.length c0_7]] ?_; (with_reducible refine (config_numbers.calls a0_0 a0_1 a0_2 a0_3 a0_4 a0_5 _ _ l0_6 _ _ l0_7 false _ ?side1 ?side2 ?side3 ?side4 A2.out).mono ?_); (case side1 => exact sC HR0_6 HB); (case side2 => exact HC0_6.out); (case side3 => exact sC HR0_7 HB); (case side4 => exact HC0_7.out); rintro e w34 ⟨rfl, hb⟩; refine ⟨_, rfl, ?_⟩; replace BK144 := sK BK144 hb; replace HB := sB HB hb; (try clear hb)))
  go_ret2
  exact sEnd HB
 subst c3
 have H1 : ((blocks_Check.f k l0_6).bind fun bt146 => (if bt146.1 = 0 then ((config_in.f (l0_7.length : Int) 1 32).bind fun t148 => (if t148 = true then (config_Check.l0 k (l0_7.length : Int) 0 a0_0 a0_1 a0_2 a0_3 a0_4 a0_5 l0_6 l0_7) else (some (2, 100)))) else (some (bt146.1, wrap64 (1 + bt146.2))))) = some (r1, r2) := by rw [if_pos rfl] at H; exact H
 clear H
 have H := H1
 clear H1
 replace H := Option.bind_eq_some_iff.mp H
 obtain ⟨⟨t146, t147⟩, A40, H⟩ := H
 replace H : (if t146 = 0 then ((config_in.f (l0_7.length : Int) 1 32).bind fun t148 => (if t148 = true then (config_Check.l0 k (l0_7.length : Int) 0 a0_0 a0_1 a0_2 a0_3 a0_4 a0_5 l0_6 l0_7) else (some (2, 100)))) else (some (t146, wrap64 (1 + t147)))) = some (r1, r2) := H
 have A4 := Aside0.mk A40
 clear A40
 by_cases c5 : t146 = 0
 case neg =>
  rw [if_neg c5] at H
  have c5b0 : (t146 == 0) = false := beq_eq_false_iff_ne.mpr c5
  have c5b1 : (t146 != 0) = true := bne_iff_ne.mpr c5
  simp only [Option.some.injEq, Prod.mk.injEq] at H
  obtain ⟨rfl, rfl⟩ := H
  go_enter Try.func8, Try.ntmps8
  go_wp2_with (first | ((with_reducible refine gate_dst (N := 1) rfl ?_); refine boxK (N := 1) (#[.int .i64 a0_0, .int .i64 a0_1, .int .i64 a0_2, .int .i64 a0_3, .int .i64 a0_4, .int .i64 a0_5, .slice A0_6 l0_6.length c0_6, .slice A0_7 l0_7.length c0_7]) 25 ?_; intro gb144 hg w27 hbox hb; have BK144 := Aside0.mk (hbox); have GW144 := sG hg HB; have GE144 := sG hg HB; replace HB := sB HB hb; clear hb hbox hg; obtain ⟨z28_0, z28_1, z28_2, z28_3, z28_4, z28_5, z28_6, z28_7, q28_0, q28_1, q28_2, q28_3, q28_4, q28_5, q28_6, q28_7⟩ := bk8 BK144) | ((with_reducible refine gate_callee (f := 19) rfl ?_); refine goesK (some 9) Try.func19 #[.agg #[.int .i64 a0_0, .int .i64 a0_1, .int .i64 a0_2, .int .i64 a0_3, .int .i64 a0_4, .int .i64 a0_5, .slice A0_6 l0_6.length c0_6, .slice A0_7 l0_7.length c0_7]] ?_; (with_reducible refine (config_numbers.calls a0_0 a0_1 a0_2 a0_3 a0_4 a0_5 _ _ l0_6 _ _ l0_7 true _ ?side1 ?side2 ?side3 ?side4 A2.out).mono ?_); (case side1 => exact sC HR0_6 HB); (case side2 => exact HC0_6.out); (case side3 => exact sC HR0_7 HB); (case side4 => exact HC0_7.out); rintro e w29 ⟨rfl, hb⟩; refine ⟨_, rfl, ?_⟩; replace BK144 := sK BK144 hb; replace HB := sB HB hb; (try clear hb); obtain ⟨z30_0, z30_1, z30_2, z30_3, z30_4, z30_5, z30_6, z30_7, q30_0, q30_1, q30_2, q30_3, q30_4, q30_5, q30_6, q30_7⟩ := bk8 BK144) | ((with_reducible refine gate_callee (f := 20) rfl ?_); refine goesK (some 14) Try.func20 #[.slice A0_6 l0_6.length c0_6] ?_; (with_reducible refine (blocks_Check.calls k _ _ l0_6 t146 t147 _ ?side1 ?side2 A4.out).mono ?_); (case side1 => exact sC HR0_6 HB); (case side2 => exact HC0_6.out); rintro e w31 ⟨rfl, hb⟩; refine ⟨_, rfl, ?_⟩; replace BK144 := sK BK144 hb; replace HB := sB HB hb; (try clear hb)))
  go_ret2
  exact sEnd HB
 rw [if_pos c5] at H
 have c5b0 : (t146 == 0) = true := beq_iff_eq.mpr c5
 have c5b1 : (t146 != 0) = false := bne_eq_false_iff_eq.mpr c5
 clear c5
 replace H := Option.bind_eq_some_iff.mp H
 obtain ⟨t148, A60, H⟩ := H
 replace H : (if t148 = true then (config_Check.l0 k (l0_7.length : Int) 0 a0_0 a0_1 a0_2 a0_3 a0_4 a0_5 l0_6 l0_7) else (some (2, 100))) = some (r1, r2) := H
 have A6 := Aside0.mk A60
 clear A60
 by_cases c7 : t148 = true
 case neg =>
  replace c7 := Bool.eq_false_iff.mpr c7
  subst c7
  have H1 : (some (2, 100)) = some (r1, r2) := by rw [if_neg (show ¬ (false = true) by decide)] at H; exact H
  clear H
  have H := H1
  clear H1
  simp only [Option.some.injEq, Prod.mk.injEq] at H
  obtain ⟨rfl, rfl⟩ := H
  go_enter Try.func8, Try.ntmps8
  go_wp2_with (first | ((with_reducible refine gate_dst (N := 1) rfl ?_); refine boxK (N := 1) (#[.int .i64 a0_0, .int .i64 a0_1, .int .i64 a0_2, .int .i64 a0_3, .int .i64 a0_4, .int .i64 a0_5, .slice A0_6 l0_6.length c0_6, .slice A0_7 l0_7.length c0_7]) 25 ?_; intro gb144 hg w21 hbox hb; have BK144 := Aside0.mk (hbox); have GW144 := sG hg HB; have GE144 := sG hg HB; replace HB := sB HB hb; clear hb hbox hg; obtain ⟨z22_0, z22_1, z22_2, z22_3, z22_4, z22_5, z22_6, z22_7, q22_0, q22_1, q22_2, q22_3, q22_4, q22_5, q22_6, q22_7⟩ := bk8 BK144) | ((with_reducible refine gate_callee (f := 19) rfl ?_); refine goesK (some 9) Try.func19 #[.agg #[.int .i64 a0_0, .int .i64 a0_1, .int .i64 a0_2, .int .i64 a0_3, .int .i64 a0_4, .int .i64 a0_5, .slice A0_6 l0_6.length c0_6, .slice A0_7 l0_7.length c0_7]] ?_; (with_reducible refine (config_numbers.calls a0_0 a0_1 a0_2 a0_3 a0_4 a0_5 _ _ l0_6 _ _ l0_7 true _ ?side1 ?side2 ?side3 ?side4 A2.out).mono ?_); (case side1 => exact sC HR0_6 HB); (case side2 => exact HC0_6.out); (case side3 => exact sC HR0_7 HB); (case side4 => exact HC0_7.out); rintro e w23 ⟨rfl, hb⟩; refine ⟨_, rfl, ?_⟩; replace BK144 := sK BK144 hb; replace HB := sB HB hb; (try clear hb); obtain ⟨z24_0, z24_1, z24_2, z24_3, z24_4, z24_5, z24_6, z24_7, q24_0, q24_1, q24_2, q24_3, q24_4, q24_5, q24_6, q24_7⟩ := bk8 BK144) | ((with_reducible refine gate_callee (f := 20) rfl ?_); refine goesK (some 14) Try.func20 #[.slice A0_6 l0_6.length c0_6] ?_; (with_reducible refine (blocks_Check.calls k _ _ l0_6 t146 t147 _ ?side1 ?side2 A4.out).mono ?_); (case side1 => exact sC HR0_6 HB); (case side2 => exact HC0_6.out); rintro e w25 ⟨rfl, hb⟩; refine ⟨_, rfl, ?_⟩; replace BK144 := sK BK144 hb; replace HB := sB HB hb; (try clear hb); obtain ⟨z26_0, z26_1, z26_2, z26_3, z26_4, z26_5, z26_6, z26_7, q26_0, q26_1, q26_2, q26_3, q26_4, q26_5, q26_6, q26_7⟩ := bk8 BK144) | ((with_reducible refine gate_callee (f := 21) rfl ?_); refine goesK (some 25) Try.func21 #[.int .i64 (l0_7.length : Int), .int .i64 1, .int .i64 32] ?_; (with_reducible refine (config_in.calls (l0_7.length : Int) 1 32 false _ A6.out).mono ?_); rintro e w' ⟨rfl, ⟨nd, rfl⟩⟩; refine ⟨_, rfl, ?_⟩))
  go_ret2
  exact sEnd HB
 subst c7
 have H1 : (config_Check.l0 k (l0_7.length : Int) 0 a0_0 a0_1 a0_2 a0_3 a0_4 a0_5 l0_6 l0_7) = some (r1, r2) := by rw [if_pos rfl] at H; exact H
 clear H
 have H := H1
 clear H1
 have H' := Aside0.mk H
 clear H
 go_enter Try.func8, Try.ntmps8
 go_wp2_with (first | ((with_reducible refine gate_dst (N := 1) rfl ?_); refine boxK (N := 1) (#[.int .i64 a0_0, .int .i64 a0_1, .int .i64 a0_2, .int .i64 a0_3, .int .i64 a0_4, .int .i64 a0_5, .slice A0_6 l0_6.length c0_6, .slice A0_7 l0_7.length c0_7]) 25 ?_; intro gb144 hg w8 hbox hb; have BK144 := Aside0.mk (hbox); have GW144 := sG hg HB; have GE144 := sG hg HB; replace HB := sB HB hb; clear hb hbox hg; obtain ⟨z9_0, z9_1, z9_2, z9_3, z9_4, z9_5, z9_6, z9_7, q9_0, q9_1, q9_2, q9_3, q9_4, q9_5, q9_6, q9_7⟩ := bk8 BK144) | ((with_reducible refine gate_callee (f := 19) rfl ?_); refine goesK (some 9) Try.func19 #[.agg #[.int .i64 a0_0, .int .i64 a0_1, .int .i64 a0_2, .int .i64 a0_3, .int .i64 a0_4, .int .i64 a0_5, .slice A0_6 l0_6.length c0_6, .slice A0_7 l0_7.length c0_7]] ?_; (with_reducible refine (config_numbers.calls a0_0 a0_1 a0_2 a0_3 a0_4 a0_5 _ _ l0_6 _ _ l0_7 true _ ?side1 ?side2 ?side3 ?side4 A2.out).mono ?_); (case side1 => exact sC HR0_6 HB); (case side2 => exact HC0_6.out); (case side3 => exact sC HR0_7 HB); (case side4 => exact HC0_7.out); rintro e w10 ⟨rfl, hb⟩; refine ⟨_, rfl, ?_⟩; replace BK144 := sK BK144 hb; replace HB := sB HB hb; (try clear hb); obtain ⟨z11_0, z11_1, z11_2, z11_3, z11_4, z11_5, z11_6, z11_7, q11_0, q11_1, q11_2, q11_3, q11_4, q11_5, q11_6, q11_7⟩ := bk8 BK144) | ((with_reducible refine gate_callee (f := 20) rfl ?_); refine goesK (some 14) Try.func20 #[.slice A0_6 l0_6.length c0_6] ?_; (with_reducible refine (blocks_Check.calls k _ _ l0_6 t146 t147 _ ?side1 ?side2 A4.out).mono ?_); (case side1 => exact sC HR0_6 HB); (case side2 => exact HC0_6.out); rintro e w12 ⟨rfl, hb⟩; refine ⟨_, rfl, ?_⟩; replace BK144 := sK BK144 hb; replace HB := sB HB hb; (try clear hb); obtain ⟨z13_0, z13_1, z13_2, z13_3, z13_4, z13_5, z13_6, z13_7, q13_0, q13_1, q13_2, q13_3, q13_4, q13_5, q13_6, q13_7⟩ := bk8 BK144) | ((with_reducible refine gate_callee (f := 21) rfl ?_); refine goesK (some 25) Try.func21 #[.int .i64 (l0_7.length : Int), .int .i64 1, .int .i64 32] ?_; (with_reducible refine (config_in.calls (l0_7.length : Int) 1 32 true _ A6.out).mono ?_); rintro e w' ⟨rfl, ⟨nd, rfl⟩⟩; refine ⟨_, rfl, ?_⟩))
 go_loopg [30] k (fun kq v30 w' => ∃ (x30_1 : Int), v30 = .int .i64 x30_1 ∧ Aside0 (config_Check.l0 kq (l0_7.length : Int) x30_1 a0_0 a0_1 a0_2 a0_3 a0_4 a0_5 l0_6 l0_7 = some (r1, r2)) ∧ Aside0 (kq ≤ k) ∧ Aside0 (w'.heap[gb144]? = some (.cells #[.int .i64 a0_0, .int .i64 a0_1, .int .i64 a0_2, .int .i64 a0_3, .int .i64 a0_4, .int .i64 a0_5, (.slice A0_6 l0_6.length c0_6), (.slice A0_7 l0_7.length c0_7)] 25 (0, 0))) ∧ Aside0 (Below w.heap.size w w'))
 case atStart => exact ⟨(0), (by first | rfl | (simp; done) | (simp [*]; done)), H', ⟨Nat.le_refl _⟩, (sK0 BK144), (sB0 HB)⟩
 clear H'
 (try clear c3); (try clear c5); (try clear c5b0); (try clear c5b1); (try clear c7); (try clear z11_0 z11_1 z11_2 z11_3 z11_4 z11_5 z11_6 z11_7 q11_0 q11_1 q11_2 q11_3 q11_4 q11_5 q11_6 q11_7); (try clear z13_0 z13_1 z13_2 z13_3 z13_4 z13_5 z13_6 z13_7 q13_0 q13_1 q13_2 q13_3 q13_4 q13_5 q13_6 q13_7); (try clear z9_0 z9_1 z9_2 z9_3 z9_4 z9_5 z9_6 z9_7 q9_0 q9_1 q9_2 q9_3 q9_4 q9_5 q9_6 q9_7)
 obtain ⟨x30_1, rfl, HA, HK1, BK144, HB⟩ := hrel
 cases gk with
 | zero => exact absurd HA.out (by simp [config_Check.l0])
 | succ k1 =>
  have H := HA.out
  clear HA
  simp only [config_Check.l0] at H
  by_cases c14 : x30_1 < (l0_7.length : Int)
  ·rw [if_pos c14] at H
   have c14b0 : decide (x30_1 < (l0_7.length : Int)) = true := decide_eq_true c14
   clear c14
   replace H := Option.bind_eq_some_iff.mp H
   obtain ⟨t149, A150, H⟩ := H
   replace H : (if t149 = 0 then (config_Check.l0 k1 (l0_7.length : Int) (wrap64 (x30_1 + 1)) a0_0 a0_1 a0_2 a0_3 a0_4 a0_5 l0_6 l0_7) else (some (t149, wrap64 (100 + x30_1)))) = some (r1, r2) := H
   have A15 := Aside0.mk A150
   clear A150
   by_cases c16 : t149 = 0
   ·rw [if_pos c16] at H
    have c16b0 : (t149 == 0) = true := beq_iff_eq.mpr c16
    have c16b1 : (t149 != 0) = false := bne_eq_false_iff_eq.mpr c16
    clear c16
    have H' := Aside0.mk H
    clear H
    obtain ⟨z17_0, z17_1, z17_2, z17_3, z17_4, z17_5, z17_6, z17_7, q17_0, q17_1, q17_2, q17_3, q17_4, q17_5, q17_6, q17_7⟩ := bk8 BK144
    go_wp2_with (first | ((with_reducible refine gate_callee (f := 22) rfl ?_); refine goesK (some 35) Try.func22 #[.agg #[.int .i64 a0_0, .int .i64 a0_1, .int .i64 a0_2, .int .i64 a0_3, .int .i64 a0_4, .int .i64 a0_5, .slice A0_6 l0_6.length c0_6, .slice A0_7 l0_7.length c0_7], .int .i64 x30_1] ?_; (with_reducible refine (config_station.calls k1 a0_0 a0_1 a0_2 a0_3 a0_4 a0_5 _ _ l0_6 _ _ l0_7 x30_1 t149 _ ?side1 ?side2 ?side3 ?side4 A15.out).mono ?_); (case side1 => exact sC HR0_6 HB); (case side2 => exact HC0_6.out); (case side3 => exact sC HR0_7 HB); (case side4 => exact HC0_7.out); rintro e w18 ⟨rfl, hb⟩; refine ⟨_, rfl, ?_⟩; replace BK144 := sK BK144 hb; replace HB := sB HB hb; (try clear hb)))
    go_roundg k1
    case measure => have := HK1.out; omega
    case rel => exact ⟨(wrap64 (x30_1 + 1)), (by first | rfl | (simp; done) | (simp [*]; done)), H', ⟨by have := HK1.out; omega⟩, (sK0 BK144), (sB0 HB)⟩
   ·rw [if_neg c16] at H
    have c16b0 : (t149 == 0) = false := beq_eq_false_iff_ne.mpr c16
    have c16b1 : (t149 != 0) = true := bne_iff_ne.mpr c16
    simp only [Option.some.injEq, Prod.mk.injEq] at H
    obtain ⟨rfl, rfl⟩ := H
    obtain ⟨z19_0, z19_1, z19_2, z19_3, z19_4, z19_5, z19_6, z19_7, q19_0, q19_1, q19_2, q19_3, q19_4, q19_5, q19_6, q19_7⟩ := bk8 BK144
    go_wp2_with (first | ((with_reducible refine gate_callee (f := 22) rfl ?_); refine goesK (some 35) Try.func22 #[.agg #[.int .i64 a0_0, .int .i64 a0_1, .int .i64 a0_2, .int .i64 a0_3, .int .i64 a0_4, .int .i64 a0_5, .slice A0_6 l0_6.length c0_6, .slice A0_7 l0_7.length c0_7], .int .i64 x30_1] ?_; (with_reducible refine (config_station.calls k1 a0_0 a0_1 a0_2 a0_3 a0_4 a0_5 _ _ l0_6 _ _ l0_7 x30_1 t149 _ ?side1 ?side2 ?side3 ?side4 A15.out).mono ?_); (case side1 => exact sC HR0_6 HB); (case side2 => exact HC0_6.out); (case side3 => exact sC HR0_7 HB); (case side4 => exact HC0_7.out); rintro e w20 ⟨rfl, hb⟩; refine ⟨_, rfl, ?_⟩; replace BK144 := sK BK144 hb; replace HB := sB HB hb; (try clear hb)))
    go_ret2
    exact sEnd HB
  ·rw [if_neg c14] at H
   have c14b0 : decide (x30_1 < (l0_7.length : Int)) = false := decide_eq_false c14
   clear c14
   simp only [Option.some.injEq, Prod.mk.injEq] at H
   obtain ⟨rfl, rfl⟩ := H
   go_wp2
   go_ret2
   exact sEnd HB

/-! ### config_Find: function 10 -/
def config_Find.f (a0_0 : Int) (a0_1 : Int) (a0_2 : Int) (a0_3 : Int) (a0_4 : Int) (a0_5 : Int) (l0_6 : List (S63)) (l0_7 : List (S37)) (a1 : Int) : Option (Int × Int × Int × (List (S54)) × (List (S56)) × (List (S56)) × Bool) := (config_place.f a0_0 a0_1 a0_2 a0_3 a0_4 a0_5 l0_6 l0_7 a1).bind fun t152 => (if t152 < 0 then (some (0, 0, 0, ([] : List (S54)), ([] : List (S56)), ([] : List (S56)), false)) else (if 0 ≤ t152 then (if t152 < (l0_7.length : Int) then (some ((rd_T37 l0_7 t152).f0, (rd_T37 l0_7 t152).f1, (rd_T37 l0_7 t152).f2, (rd_T37 l0_7 t152).f3, (rd_T37 l0_7 t152).f4, (rd_T37 l0_7 t152).f5, true)) else (none)) else (none)))
set_option maxHeartbeats 8000000 in
set_option maxRecDepth 100000 in
theorem config_Find.calls (a0_0 : Int) (a0_1 : Int) (a0_2 : Int) (a0_3 : Int) (a0_4 : Int) (a0_5 : Int) (A0_6 : Option Addr) (c0_6 : Nat) (l0_6 : List (S63)) (P0_7_ : Nat → Prop) (A0_7 : Option Addr) (c0_7 : Nat) (l0_7 : List (S37)) (a1 : Int) (r1 : Int) (r2 : Int) (r3 : Int) (r4 : List (S54)) (r5 : List (S56)) (r6 : List (S56)) (r7 : Bool) (w : World) (hr0_6 : Kd.C k63 w A0_6 l0_6.length l0_6) (hc0_6 : l0_6.length ≤ c0_6) (hs0_7 : Kd.V k37 37 w w.heap.size (fun k_ => P0_7_ k_) (.slice A0_7 l0_7.length c0_7) l0_7) (h : config_Find.f a0_0 a0_1 a0_2 a0_3 a0_4 a0_5 l0_6 l0_7 a1 = some (r1, r2, r3, r4, r5, r6, r7)) :
  Calls Try.prog 10 #[.agg #[.int .i64 a0_0, .int .i64 a0_1, .int .i64 a0_2, .int .i64 a0_3, .int .i64 a0_4, .int .i64 a0_5, .slice A0_6 l0_6.length c0_6, .slice A0_7 l0_7.length c0_7], .int .i64 a1] w fun e w' => ∃ v3_ v4_ v5_ : Value, e = .returned (.tuple #[.agg #[.int .i64 r1, .int .i64 r2, .int .i64 r3, v3_, v4_, v5_], .bool r7]) ∧ Kd.V k54 54 w' w.heap.size (fun k_ => (P0_7_ k_ ∨ w.heap.size ≤ k_)) v3_ r4 ∧ Kd.V k56 56 w' w.heap.size (fun k_ => (P0_7_ k_ ∨ w.heap.size ≤ k_)) v4_ r5 ∧ Kd.V k56 56 w' w.heap.size (fun k_ => (P0_7_ k_ ∨ w.heap.size ≤ k_)) v5_ r6 ∧ Below w.heap.size w w' := by
 have hu25 := Try.underlying25
 have hu37 := Try.underlying37
 have HR0_6 := Aside0.mk hr0_6
 have HC0_6 := Aside0.mk hc0_6
 clear hr0_6 hc0_6
 have HO0_7 := Aside0.mk (show Kd.V k37 37 w w.heap.size (fun k_ => (P0_7_ k_ ∨ w.heap.size ≤ k_)) (.slice A0_7 l0_7.length c0_7) l0_7 from Kd.V_mono hs0_7 (fun k_ hk => .inl hk))
 have HB := Aside0.mk (Below.refl w.heap.size w)
 have H : ((config_place.f a0_0 a0_1 a0_2 a0_3 a0_4 a0_5 l0_6 l0_7 a1).bind fun t152 => (if t152 < 0 then (some (0, 0, 0, ([] : List (S54)), ([] : List (S56)), ([] : List (S56)), false)) else (if 0 ≤ t152 then (if t152 < (l0_7.length : Int) then (some ((rd_T37 l0_7 t152).f0, (rd_T37 l0_7 t152).f1, (rd_T37 l0_7 t152).f2, (rd_T37 l0_7 t152).f3, (rd_T37 l0_7 t152).f4, (rd_T37 l0_7 t152).f5, true)) else (none)) else (none)))) = some (r1, r2, r3, r4, r5, r6, r7) := h
 clear h
 replace H := Option.bind_eq_some_iff.mp H
 obtain ⟨t152, A30, H⟩ := H
 replace H : (if t152 < 0 then (some (0, 0, 0, ([] : List (S54)), ([] : List (S56)), ([] : List (S56)), false)) else (if 0 ≤ t152 then (if t152 < (l0_7.length : Int) then (some ((rd_T37 l0_7 t152).f0, (rd_T37 l0_7 t152).f1, (rd_T37 l0_7 t152).f2, (rd_T37 l0_7 t152).f3, (rd_T37 l0_7 t152).f4, (rd_T37 l0_7 t152).f5, true)) else (none)) else (none))) = some (r1, r2, r3, r4, r5, r6, r7) := H
 have A3 := Aside0.mk A30
 clear A30
 by_cases c4 : t152 < 0
 ·rw [if_pos c4] at H
  have c4b0 : decide (t152 < 0) = true := decide_eq_true c4
  clear c4
  simp only [Option.some.injEq, Prod.mk.injEq] at H
  obtain ⟨rfl, rfl, rfl, rfl, rfl, rfl, rfl⟩ := H
  go_enter Try.func10, Try.ntmps10
  go_wp2_with (first | ((with_reducible refine gate_dst (N := 2) rfl ?_); refine boxK (N := 2) (#[.int .i64 a0_0, .int .i64 a0_1, .int .i64 a0_2, .int .i64 a0_3, .int .i64 a0_4, .int .i64 a0_5, .slice A0_6 l0_6.length c0_6, .slice A0_7 l0_7.length c0_7]) 25 ?_; intro gb150 hg w5 hbox hb; replace HO0_7 := sVe HO0_7 gb150 hg hb; have BK150 := Aside0.mk (hbox); have GW150 := sG hg HB; have GE150 := sG hg HB; replace HB := sB HB hb; clear hb hbox hg) | ((with_reducible refine gate_dst (N := 4) rfl ?_); refine boxK (N := 4) (#[.int .i64 0, .int .i64 0, .int .i64 0, .slice none 0 0, .slice none 0 0, .slice none 0 0]) 37 ?_; intro gb151 hg w6 hbox hb; replace HO0_7 := sVe HO0_7 gb151 hg hb; have BK151 := Aside0.mk (hbox); have GW151 := sG hg HB; have GE151 := sG hg HB; replace HB := sB HB hb; have NB150_151 := sNl hg BK150; have NB151_150 := sNg hg BK150; replace BK150 := sK BK150 hb; clear hb hbox hg; have hnb7 := NB150_151.out; have hnc7 := NB151_150.out; obtain ⟨z8_0, z8_1, z8_2, z8_3, z8_4, z8_5, z8_6, z8_7, q8_0, q8_1, q8_2, q8_3, q8_4, q8_5, q8_6, q8_7⟩ := bk8 BK150) | ((with_reducible refine gate_callee (f := 26) rfl ?_); refine goesK (some 9) Try.func26 #[.agg #[.int .i64 a0_0, .int .i64 a0_1, .int .i64 a0_2, .int .i64 a0_3, .int .i64 a0_4, .int .i64 a0_5, .slice A0_6 l0_6.length c0_6, .slice A0_7 l0_7.length c0_7], .int .i64 a1] ?_; (with_reducible refine (config_place.calls a0_0 a0_1 a0_2 a0_3 a0_4 a0_5 _ _ l0_6 _ _ l0_7 a1 t152 _ ?side1 ?side2 ?side3 ?side4 A3.out).mono ?_); (case side1 => exact sC HR0_6 HB); (case side2 => exact HC0_6.out); (case side3 => repeat (first | exact (Kd.V_reads' HO0_7.out).2.2 | (with_reducible refine Kd.C_alloc ?_ _) | (with_reducible refine Kd.C_drewN ?_ _) | (with_reducible refine Kd.C_drew ?_))); (case side4 => exact (Kd.V_reads' HO0_7.out).2.1); rintro e w9 ⟨rfl, hb⟩; refine ⟨_, rfl, ?_⟩; replace HO0_7 := sV HO0_7 hb; replace BK150 := sK BK150 hb; replace BK151 := sK BK151 hb; replace HB := sB HB hb; (try clear hb); obtain ⟨z10_0, z10_1, z10_2, z10_3, z10_4, z10_5, q10_0, q10_1, q10_2, q10_3, q10_4, q10_5⟩ := bk6 BK151))
  refine bodyPost_ret (results_ct rfl _ _ gb151 37 #[.int .i64 0, .int .i64 0, .int .i64 0, .slice none 0 0, .slice none 0 0, .slice none 0 0] (0, 0) _ rfl (sKq BK151) Try.underlying37 rfl (by kernel_rfl)) rfl ?_
  exact ⟨_, _, _, by first | rfl | (simp [errW_none, errW_some] <;> rfl) | (simp [*, errW_none, errW_some] <;> rfl), Kd.V_nil _ _ _ _ _, Kd.V_nil _ _ _ _ _, Kd.V_nil _ _ _ _ _, by repeat (first | (with_reducible first | exact HB.out | apply below_alloc | apply pw_below_drewN | apply below_drew1 | refine below_set ?_ (Aside0.out (by assumption))) | exact HB.out)⟩
 rw [if_neg c4] at H
 have c4b0 : decide (t152 < 0) = false := decide_eq_false c4
 clear c4
 by_cases c11 : 0 ≤ t152
 case neg =>
  rw [if_neg c11] at H
  exact absurd H (by simp)
 rw [if_pos c11] at H
 have c11b0 : decide (0 ≤ t152) = true := decide_eq_true c11
 clear c11
 by_cases c12 : t152 < (l0_7.length : Int)
 case neg =>
  rw [if_neg c12] at H
  exact absurd H (by simp)
 rw [if_pos c12] at H
 have c12b0 : decide (t152 < (l0_7.length : Int)) = true := decide_eq_true c12
 clear c12
 simp only [Option.some.injEq, Prod.mk.injEq] at H
 obtain ⟨rfl, rfl, rfl, rfl, rfl, rfl, rfl⟩ := H
 go_enter Try.func10, Try.ntmps10
 go_wp2_with (first | ((with_reducible refine gate_dst (N := 2) rfl ?_); refine boxK (N := 2) (#[.int .i64 a0_0, .int .i64 a0_1, .int .i64 a0_2, .int .i64 a0_3, .int .i64 a0_4, .int .i64 a0_5, .slice A0_6 l0_6.length c0_6, .slice A0_7 l0_7.length c0_7]) 25 ?_; intro gb150 hg w13 hbox hb; replace HO0_7 := sVe HO0_7 gb150 hg hb; have BK150 := Aside0.mk (hbox); have GW150 := sG hg HB; have GE150 := sG hg HB; replace HB := sB HB hb; clear hb hbox hg) | ((with_reducible refine gate_dst (N := 4) rfl ?_); refine boxK (N := 4) (#[.int .i64 0, .int .i64 0, .int .i64 0, .slice none 0 0, .slice none 0 0, .slice none 0 0]) 37 ?_; intro gb151 hg w14 hbox hb; replace HO0_7 := sVe HO0_7 gb151 hg hb; have BK151 := Aside0.mk (hbox); have GW151 := sG hg HB; have GE151 := sG hg HB; replace HB := sB HB hb; have NB150_151 := sNl hg BK150; have NB151_150 := sNg hg BK150; replace BK150 := sK BK150 hb; clear hb hbox hg; have hnb15 := NB150_151.out; have hnc15 := NB151_150.out; obtain ⟨z16_0, z16_1, z16_2, z16_3, z16_4, z16_5, z16_6, z16_7, q16_0, q16_1, q16_2, q16_3, q16_4, q16_5, q16_6, q16_7⟩ := bk8 BK150) | ((with_reducible refine gate_callee (f := 26) rfl ?_); refine goesK (some 9) Try.func26 #[.agg #[.int .i64 a0_0, .int .i64 a0_1, .int .i64 a0_2, .int .i64 a0_3, .int .i64 a0_4, .int .i64 a0_5, .slice A0_6 l0_6.length c0_6, .slice A0_7 l0_7.length c0_7], .int .i64 a1] ?_; (with_reducible refine (config_place.calls a0_0 a0_1 a0_2 a0_3 a0_4 a0_5 _ _ l0_6 _ _ l0_7 a1 t152 _ ?side1 ?side2 ?side3 ?side4 A3.out).mono ?_); (case side1 => exact sC HR0_6 HB); (case side2 => exact HC0_6.out); (case side3 => repeat (first | exact (Kd.V_reads' HO0_7.out).2.2 | (with_reducible refine Kd.C_alloc ?_ _) | (with_reducible refine Kd.C_drewN ?_ _) | (with_reducible refine Kd.C_drew ?_))); (case side4 => exact (Kd.V_reads' HO0_7.out).2.1); rintro e w17 ⟨rfl, hb⟩; refine ⟨_, rfl, ?_⟩; replace HO0_7 := sV HO0_7 hb; replace BK150 := sK BK150 hb; replace BK151 := sK BK151 hb; replace HB := sB HB hb; (try clear hb); obtain ⟨z18_0, z18_1, z18_2, z18_3, z18_4, z18_5, z18_6, z18_7, q18_0, q18_1, q18_2, q18_3, q18_4, q18_5, q18_6, q18_7⟩ := bk8 BK150; have p153 : 0 ≤ (t152 : Int) := of_decide_eq_true (by first | (with_reducible assumption) | assumption); have q153 : t152 < (l0_7.length : Int) := of_decide_eq_true (by first | (with_reducible assumption) | assumption); obtain ⟨ad153, A153_3, c153_3, A153_4, c153_4, A153_5, c153_5, e153, hx153_0, hx153_1, hx153_2, hx153_3, hx153_4, hx153_5, hl153_3, hi153_3, hl153_4, hi153_4, hl153_5, hi153_5⟩ := at_T37 (Kd.V_reads' HO0_7.out).2.2 t152 p153 q153; cases e153; obtain ⟨ce153, hce153, hMe153, hcc153⟩ := Kd.V_get HO0_7.out z37 t152 p153 (by first | exact q153 | exact of_decide_eq_true (by first | (with_reducible assumption) | assumption) | (have e_ := (Kd.V_reads' HO0_7.out).1; omega)); obtain ⟨ua153_3, uc153_3, ua153_4, uc153_4, ua153_5, uc153_5, rfl, ul153_3, ge153_3, ul153_4, ge153_4, ul153_5, ge153_5⟩ := k37_openF hMe153; have hv153_3 := hcc153 3 _ rfl; rw [add_field _ _ 3 (by omega)] at hv153_3; replace hv153_3 := Option.some.inj (hv153_3.symm.trans hx153_3); injection hv153_3 with hva_ hvn_ hvc_; rw [hva_] at ge153_3; rw [hvc_] at ul153_3; have HL153_3 := Aside0.mk (show Kd.V k54 54 _ w.heap.size _ _ ((rd_T37 l0_7 t152).f3) from Kd.V_mk ul153_3 ge153_3); clear hva_ hvn_ hvc_ ge153_3 ul153_3; have hv153_4 := hcc153 4 _ rfl; rw [add_field _ _ 4 (by omega)] at hv153_4; replace hv153_4 := Option.some.inj (hv153_4.symm.trans hx153_4); injection hv153_4 with hva_ hvn_ hvc_; rw [hva_] at ge153_4; rw [hvc_] at ul153_4; have HL153_4 := Aside0.mk (show Kd.V k56 56 _ w.heap.size _ _ ((rd_T37 l0_7 t152).f4) from Kd.V_mk ul153_4 ge153_4); clear hva_ hvn_ hvc_ ge153_4 ul153_4; have hv153_5 := hcc153 5 _ rfl; rw [add_field _ _ 5 (by omega)] at hv153_5; replace hv153_5 := Option.some.inj (hv153_5.symm.trans hx153_5); injection hv153_5 with hva_ hvn_ hvc_; rw [hva_] at ge153_5; rw [hvc_] at ul153_5; have HL153_5 := Aside0.mk (show Kd.V k56 56 _ w.heap.size _ _ ((rd_T37 l0_7 t152).f5) from Kd.V_mk ul153_5 ge153_5); clear hva_ hvn_ hvc_ ge153_5 ul153_5; clear hcc153 hce153; have HR153_3 := Aside0.mk hi153_3; have HC153_3 := Aside0.mk hl153_3; clear hi153_3 hl153_3; have HR153_4 := Aside0.mk hi153_4; have HC153_4 := Aside0.mk hl153_4; clear hi153_4 hl153_4; have HR153_5 := Aside0.mk hi153_5; have HC153_5 := Aside0.mk hl153_5; clear hi153_5 hl153_5; replace p153 := eq_true p153; replace q153 := eq_true q153; obtain ⟨z19_0, z19_1, z19_2, z19_3, z19_4, z19_5, q19_0, q19_1, q19_2, q19_3, q19_4, q19_5⟩ := bk6 BK151))
 refine bodyPost_ret (results_ct rfl _ _ gb151 37 #[.int .i64 ((rd_T37 l0_7 t152).f0), .int .i64 ((rd_T37 l0_7 t152).f1), .int .i64 ((rd_T37 l0_7 t152).f2), .slice A153_3 ((rd_T37 l0_7 t152).f3).length c153_3, .slice A153_4 ((rd_T37 l0_7 t152).f4).length c153_4, .slice A153_5 ((rd_T37 l0_7 t152).f5).length c153_5] (0, 0) _ rfl (sKq BK151) Try.underlying37 rfl (by kernel_rfl)) rfl ?_
 exact ⟨_, _, _, by first | rfl | (simp [errW_none, errW_some] <;> rfl) | (simp [*, errW_none, errW_some] <;> rfl), by (with_reducible repeat (first | apply Kd.V_alloc | apply Kd.V_drewN | apply Kd.V_drew)); exact Kd.V_mono (Kd.V_far (p := ⟨gb151, 5, none⟩) (Kd.V_far (p := ⟨gb151, 4, none⟩) (Kd.V_far (p := ⟨gb151, 3, none⟩) (Kd.V_far (p := ⟨gb151, 2, none⟩) (Kd.V_far (p := ⟨gb151, 1, none⟩) (Kd.V_far (p := ⟨gb151, 0, none⟩) (Kd.V_mono HL153_3.out (fun k_ hk => (⟨hk, hk.2⟩ : _ ∧ k_ ≠ gb151))) (fun _ hk => hk.2) (.int .i64 ((rd_T37 l0_7 t152).f0))) (fun _ hk => hk.2) (.int .i64 ((rd_T37 l0_7 t152).f1))) (fun _ hk => hk.2) (.int .i64 ((rd_T37 l0_7 t152).f2))) (fun _ hk => hk.2) (.slice A153_3 ((rd_T37 l0_7 t152).f3).length c153_3)) (fun _ hk => hk.2) (.slice A153_4 ((rd_T37 l0_7 t152).f4).length c153_4)) (fun _ hk => hk.2) (.slice A153_5 ((rd_T37 l0_7 t152).f5).length c153_5)) (fun _ hk => hk.1.1.1), by (with_reducible repeat (first | apply Kd.V_alloc | apply Kd.V_drewN | apply Kd.V_drew)); exact Kd.V_mono (Kd.V_far (p := ⟨gb151, 5, none⟩) (Kd.V_far (p := ⟨gb151, 4, none⟩) (Kd.V_far (p := ⟨gb151, 3, none⟩) (Kd.V_far (p := ⟨gb151, 2, none⟩) (Kd.V_far (p := ⟨gb151, 1, none⟩) (Kd.V_far (p := ⟨gb151, 0, none⟩) (Kd.V_mono HL153_4.out (fun k_ hk => (⟨hk, hk.2⟩ : _ ∧ k_ ≠ gb151))) (fun _ hk => hk.2) (.int .i64 ((rd_T37 l0_7 t152).f0))) (fun _ hk => hk.2) (.int .i64 ((rd_T37 l0_7 t152).f1))) (fun _ hk => hk.2) (.int .i64 ((rd_T37 l0_7 t152).f2))) (fun _ hk => hk.2) (.slice A153_3 ((rd_T37 l0_7 t152).f3).length c153_3)) (fun _ hk => hk.2) (.slice A153_4 ((rd_T37 l0_7 t152).f4).length c153_4)) (fun _ hk => hk.2) (.slice A153_5 ((rd_T37 l0_7 t152).f5).length c153_5)) (fun _ hk => hk.1.1.1), by (with_reducible repeat (first | apply Kd.V_alloc | apply Kd.V_drewN | apply Kd.V_drew)); exact Kd.V_mono (Kd.V_far (p := ⟨gb151, 5, none⟩) (Kd.V_far (p := ⟨gb151, 4, none⟩) (Kd.V_far (p := ⟨gb151, 3, none⟩) (Kd.V_far (p := ⟨gb151, 2, none⟩) (Kd.V_far (p := ⟨gb151, 1, none⟩) (Kd.V_far (p := ⟨gb151, 0, none⟩) (Kd.V_mono HL153_5.out (fun k_ hk => (⟨hk, hk.2⟩ : _ ∧ k_ ≠ gb151))) (fun _ hk => hk.2) (.int .i64 ((rd_T37 l0_7 t152).f0))) (fun _ hk => hk.2) (.int .i64 ((rd_T37 l0_7 t152).f1))) (fun _ hk => hk.2) (.int .i64 ((rd_T37 l0_7 t152).f2))) (fun _ hk => hk.2) (.slice A153_3 ((rd_T37 l0_7 t152).f3).length c153_3)) (fun _ hk => hk.2) (.slice A153_4 ((rd_T37 l0_7 t152).f4).length c153_4)) (fun _ hk => hk.2) (.slice A153_5 ((rd_T37 l0_7 t152).f5).length c153_5)) (fun _ hk => hk.1.1.1), by repeat (first | (with_reducible first | exact HB.out | apply below_alloc | apply pw_below_drewN | apply below_drew1 | refine below_set ?_ (Aside0.out (by assumption))) | exact HB.out)⟩

end Go.Proofs.Ytedmikeamgebjaa.F
