-- Written by a program out of the translation; not trusted: Lean checks it.
import Derived.Test.YtedmikeamgebjaaK
import Derived.Test.YtedmikeamgebjaaK2
import Derived.Test.YtedmikeamgebjaaRx0
import Derived.Test.YtedmikeamgebjaaRx3
import Derived.Test.YtedmikeamgebjaaRx4
namespace Go.Proofs.Ytedmikeamgebjaa.R
open Go.Proofs.YtedmikeamgebjaaW.PrintK Go.RowKit Go.Proofs.YtedmikeamgebjaaW.PrintWords Go.Proofs.YtedmikeamgebjaaW.PrintLast Go.Proofs.YtedmikeamgebjaaW.PrintMore
attribute [local go_sem] max2_int min2_int max_two min_two max_three min_three max_four min_four   -- for this text's walks alone
set_option linter.unusedVariables false
set_option linter.unusedSimpArgs false

/-! ### config_station: function 22 -/
def config_station.j0 : Nat → Int → Bool → Int → Int → Int → Int → Int → Int → List (S63) → List (S37) → Int → Int → Int → List (S54) → List (S56) → List (S56) → Option (Int)
 | 0, _, _, _, _, _, _, _, _, _, _, _, _, _, _, _, _ => none
 | k + 1, x1, x17, x132000, x132001, x132002, x132003, x132004, x132005, x132006, x132007, x134000, x134001, x134002, x134003, x134004, x134005 => if x17 = true then (some 3) else ((config_place.f x132000 x132001 x132002 x132003 x132004 x132005 x132006 x132007 x134000).bind fun t136 => (if t136 < x1 then (some 14) else ((image_Lay.f k x134002 x134004 x132006).bind fun bt137 => (if bt137.1 = 0 then ((verify_Check.f x134003).bind fun bt139 => (if bt139.1 = 0 then ((image_Reach.f k x134005 x132006).bind fun bt141 => (if bt141.1 = 0 then ((config_owns.f x132000 x132001 x132002 x132003 x132004 x132005 x132006 x132007 x134000 x134001 x134002 x134003 x134004 x134005).bind fun t143 => (if t143 = true then (some 0) else (some 5))) else (some bt141.1))) else (some bt139.1))) else (some bt137.1)))))
def config_station.f (k : Nat) (a0_0 a0_1 a0_2 a0_3 a0_4 a0_5 : Int) (l0_6 : List (S63)) (l0_7 : List (S37)) (a1 : Int) : Option (Int) := if 0 ≤ a1 then (if a1 < (l0_7.length : Int) then ((config_in.f ((rd_T37 l0_7 a1).f0) 0 a0_5).bind fun t134 => (if t134 = true then ((config_in.f ((rd_T37 l0_7 a1).f1) 1 1000).bind fun t135 => (config_station.j0 k a1 (!t135) a0_0 a0_1 a0_2 a0_3 a0_4 a0_5 l0_6 l0_7 ((rd_T37 l0_7 a1).f0) ((rd_T37 l0_7 a1).f1) ((rd_T37 l0_7 a1).f2) ((rd_T37 l0_7 a1).f3) ((rd_T37 l0_7 a1).f4) ((rd_T37 l0_7 a1).f5))) else (config_station.j0 k a1 true a0_0 a0_1 a0_2 a0_3 a0_4 a0_5 l0_6 l0_7 ((rd_T37 l0_7 a1).f0) ((rd_T37 l0_7 a1).f1) ((rd_T37 l0_7 a1).f2) ((rd_T37 l0_7 a1).f3) ((rd_T37 l0_7 a1).f4) ((rd_T37 l0_7 a1).f5)))) else (none)) else (none)
theorem config_station.mono_l : ∀ k, (∀ y0 y1 y2 y3 y4 y5 y6 y7 y8 y9 y10 y11 y12 y13 y14 y15, LeO (config_station.j0 k y0 y1 y2 y3 y4 y5 y6 y7 y8 y9 y10 y11 y12 y13 y14 y15) (config_station.j0 (k + 1) y0 y1 y2 y3 y4 y5 y6 y7 y8 y9 y10 y11 y12 y13 y14 y15))
 | 0 => fun _ _ _ _ _ _ _ _ _ _ _ _ _ _ _ _ r h => by simp [config_station.j0] at h
 | k + 1 => by
  have ih0 := config_station.mono_l k
  ·intro y0 y1 y2 y3 y4 y5 y6 y7 y8 y9 y10 y11 y12 y13 y14 y15
   unfold config_station.j0
   repeat' first
   | (with_reducible exact ih0 _ _ _ _ _ _ _ _ _ _ _ _ _ _ _ _)
   | (with_reducible exact image_Lay.mono _ _ _ _)
   | (with_reducible exact image_Reach.mono _ _ _)
   | (with_reducible exact LeO.refl _)
   | (with_reducible exact LeO.none _)
   | (with_reducible refine LeO.ite ?_ ?_)
   | (with_reducible refine LeO.bind ?_ (fun _ => ?_))
   | exact ih0 _ _ _ _ _ _ _ _ _ _ _ _ _ _ _ _
   | exact image_Lay.mono _ _ _ _
   | exact image_Reach.mono _ _ _
   | exact LeO.none _
   | refine LeO.ite ?_ ?_
   | refine LeO.bind ?_ (fun _ => ?_)
theorem config_station.mono : ∀ a0 a1 a2 a3 a4 a5 a6 a7 a8 k, LeO (config_station.f k a0 a1 a2 a3 a4 a5 a6 a7 a8) (config_station.f (k + 1) a0 a1 a2 a3 a4 a5 a6 a7 a8) := by
 intro a0 a1 a2 a3 a4 a5 a6 a7 a8 k
 have ih0 := config_station.mono_l k
 unfold config_station.f
 repeat' first
   | (with_reducible exact ih0 _ _ _ _ _ _ _ _ _ _ _ _ _ _ _ _)
   | (with_reducible exact image_Lay.mono _ _ _ _)
   | (with_reducible exact image_Reach.mono _ _ _)
   | (with_reducible exact LeO.refl _)
   | (with_reducible exact LeO.none _)
   | (with_reducible refine LeO.ite ?_ ?_)
   | (with_reducible refine LeO.bind ?_ (fun _ => ?_))
   | exact ih0 _ _ _ _ _ _ _ _ _ _ _ _ _ _ _ _
   | exact image_Lay.mono _ _ _ _
   | exact image_Reach.mono _ _ _
   | exact LeO.none _
   | refine LeO.ite ?_ ?_
   | refine LeO.bind ?_ (fun _ => ?_)
set_option maxHeartbeats 8000000 in
set_option maxRecDepth 100000 in
theorem config_station.calls (k : Nat) (a0_0 a0_1 a0_2 a0_3 a0_4 a0_5 : Int) (A0_6 : Option Addr) (c0_6 : Nat) (l0_6 : List (S63)) (A0_7 : Option Addr) (c0_7 : Nat) (l0_7 : List (S37)) (a1 r : Int) (w : World) (hr0_6 : Kd.C k63 w A0_6 l0_6.length l0_6) (hc0_6 : l0_6.length ≤ c0_6) (hr0_7 : Kd.C k37 w A0_7 l0_7.length l0_7) (hc0_7 : l0_7.length ≤ c0_7) (h : config_station.f k a0_0 a0_1 a0_2 a0_3 a0_4 a0_5 l0_6 l0_7 a1 = some r) :
  Calls Try.prog 22 #[.agg #[.int .i64 a0_0, .int .i64 a0_1, .int .i64 a0_2, .int .i64 a0_3, .int .i64 a0_4, .int .i64 a0_5, .slice A0_6 l0_6.length c0_6, .slice A0_7 l0_7.length c0_7], .int .i64 a1] w fun e w' => e = .returned (.int .i64 r) ∧ Below w.heap.size w w' := by
 have hu25 := Try.underlying25
 have hu37 := Try.underlying37
 have HR0_6 := Aside0.mk hr0_6
 have HC0_6 := Aside0.mk hc0_6
 clear hr0_6 hc0_6
 have HR0_7 := Aside0.mk hr0_7
 have HC0_7 := Aside0.mk hc0_7
 clear hr0_7 hc0_7
 have HB := Aside0.mk (Below.refl w.heap.size w)
 have H : (if 0 ≤ a1 then (if a1 < (l0_7.length : Int) then ((config_in.f ((rd_T37 l0_7 a1).f0) 0 a0_5).bind fun t134 => (if t134 = true then ((config_in.f ((rd_T37 l0_7 a1).f1) 1 1000).bind fun t135 => (config_station.j0 k a1 (!t135) a0_0 a0_1 a0_2 a0_3 a0_4 a0_5 l0_6 l0_7 ((rd_T37 l0_7 a1).f0) ((rd_T37 l0_7 a1).f1) ((rd_T37 l0_7 a1).f2) ((rd_T37 l0_7 a1).f3) ((rd_T37 l0_7 a1).f4) ((rd_T37 l0_7 a1).f5))) else (config_station.j0 k a1 true a0_0 a0_1 a0_2 a0_3 a0_4 a0_5 l0_6 l0_7 ((rd_T37 l0_7 a1).f0) ((rd_T37 l0_7 a1).f1) ((rd_T37 l0_7 a1).f2) ((rd_T37 l0_7 a1).f3) ((rd_T37 l0_7 a1).f4) ((rd_T37 l0_7 a1).f5)))) else (none)) else (none)) = some r := h
 clear h
 by_cases c3 : 0 ≤ a1
 case neg =>
  rw [if_neg c3] at H
  exact absurd H (by simp)
 rw [if_pos c3] at H
 have c3b0 : decide (0 ≤ a1) = true := decide_eq_true c3
 clear c3
 by_cases c4 : a1 < (l0_7.length : Int)
 case neg =>
  rw [if_neg c4] at H
  exact absurd H (by simp)
 rw [if_pos c4] at H
 have c4b0 : decide (a1 < (l0_7.length : Int)) = true := decide_eq_true c4
 clear c4
 have HC5 := Aside0.mk H
 clear H
 go_enter Try.func22, Try.ntmps22
 go_upto_region 2 with (first | ((with_reducible refine gate_dst (N := 2) rfl ?_); refine boxK (N := 2) (#[.int .i64 a0_0, .int .i64 a0_1, .int .i64 a0_2, .int .i64 a0_3, .int .i64 a0_4, .int .i64 a0_5, .slice A0_6 l0_6.length c0_6, .slice A0_7 l0_7.length c0_7]) 25 ?_; intro gb131 hg w6 hbox hb; have BK131 := Aside0.mk (hbox); have GW131 := sG hg HB; have GE131 := sG hg HB; replace HB := sB HB hb; clear hb hbox hg; have z7 := bk8 BK131; have p132 : 0 ≤ (a1 : Int) := of_decide_eq_true (by first | (with_reducible assumption) | assumption); have q132 : a1 < (l0_7.length : Int) := of_decide_eq_true (by first | (with_reducible assumption) | assumption); obtain ⟨ad132, A132_3, c132_3, A132_4, c132_4, A132_5, c132_5, e132, hx132_0, hx132_1, hx132_2, hx132_3, hx132_4, hx132_5, hl132_3, hi132_3, hl132_4, hi132_4, hl132_5, hi132_5⟩ := at_T37 HR0_7.out a1 p132 q132; cases e132; replace hx132_0 := (HB.out.cell (World.block_lt_of_cell? w _ hx132_0)).trans hx132_0; replace hx132_1 := (HB.out.cell (World.block_lt_of_cell? w _ hx132_1)).trans hx132_1; replace hx132_2 := (HB.out.cell (World.block_lt_of_cell? w _ hx132_2)).trans hx132_2; replace hx132_3 := (HB.out.cell (World.block_lt_of_cell? w _ hx132_3)).trans hx132_3; replace hx132_4 := (HB.out.cell (World.block_lt_of_cell? w _ hx132_4)).trans hx132_4; replace hx132_5 := (HB.out.cell (World.block_lt_of_cell? w _ hx132_5)).trans hx132_5; have HR132_3 := Aside0.mk hi132_3; have HC132_3 := Aside0.mk hl132_3; clear hi132_3 hl132_3; have HR132_4 := Aside0.mk hi132_4; have HC132_4 := Aside0.mk hl132_4; clear hi132_4 hl132_4; have HR132_5 := Aside0.mk hi132_5; have HC132_5 := Aside0.mk hl132_5; clear hi132_5 hl132_5; replace p132 := eq_true p132; replace q132 := eq_true q132) | ((with_reducible refine gate_dst (N := 5) rfl ?_); refine boxK (N := 5) (#[.int .i64 0, .int .i64 0, .int .i64 0, .slice none 0 0, .slice none 0 0, .slice none 0 0]) 37 ?_; intro gb133 hg w8 hbox hb; have BK133 := Aside0.mk (hbox); have GW133 := sG hg HB; have GE133 := sG hg HB; replace HB := sB HB hb; have NB131_133 := sNl hg BK131; have NB133_131 := sNg hg BK131; replace BK131 := sK BK131 hb; clear hb hbox hg; have hnb9 := NB133_131.out; have hnc9 := NB131_133.out; have z10 := bk6 BK133))
 (try simp only [Act.put, List.setIfInBounds_toArray, List.set_cons_zero, List.set_cons_succ])
 go_cut [17] (fun v17 wc => ∃ (kq : Nat) (x17_4 : Bool), v17 = .bool x17_4 ∧ Aside0 (config_station.j0 kq a1 x17_4 a0_0 a0_1 a0_2 a0_3 a0_4 a0_5 l0_6 l0_7 ((rd_T37 l0_7 a1).f0) ((rd_T37 l0_7 a1).f1) ((rd_T37 l0_7 a1).f2) ((rd_T37 l0_7 a1).f3) ((rd_T37 l0_7 a1).f4) ((rd_T37 l0_7 a1).f5) = some r) ∧ Aside0 (kq ≤ k) ∧ Aside0 (wc.heap[gb131]? = some (.cells #[.int .i64 a0_0, .int .i64 a0_1, .int .i64 a0_2, .int .i64 a0_3, .int .i64 a0_4, .int .i64 a0_5, (.slice A0_6 l0_6.length c0_6), (.slice (some ad132) l0_7.length c0_7)] 25 (0, 0))) ∧ Aside0 (wc.heap[gb133]? = some (.cells #[.int .i64 ((rd_T37 l0_7 a1).f0), .int .i64 ((rd_T37 l0_7 a1).f1), .int .i64 ((rd_T37 l0_7 a1).f2), (.slice A132_3 ((rd_T37 l0_7 a1).f3).length c132_3), (.slice A132_4 ((rd_T37 l0_7 a1).f4).length c132_4), (.slice A132_5 ((rd_T37 l0_7 a1).f5).length c132_5)] 37 (0, 0))) ∧ Aside0 (Below w.heap.size w wc))
 case first =>
  have H := HC5.out
  clear HC5
  replace H := Option.bind_eq_some_iff.mp H
  obtain ⟨t134, A110, H⟩ := H
  replace H : (if t134 = true then ((config_in.f ((rd_T37 l0_7 a1).f1) 1 1000).bind fun t135 => (config_station.j0 k a1 (!t135) a0_0 a0_1 a0_2 a0_3 a0_4 a0_5 l0_6 l0_7 ((rd_T37 l0_7 a1).f0) ((rd_T37 l0_7 a1).f1) ((rd_T37 l0_7 a1).f2) ((rd_T37 l0_7 a1).f3) ((rd_T37 l0_7 a1).f4) ((rd_T37 l0_7 a1).f5))) else (config_station.j0 k a1 true a0_0 a0_1 a0_2 a0_3 a0_4 a0_5 l0_6 l0_7 ((rd_T37 l0_7 a1).f0) ((rd_T37 l0_7 a1).f1) ((rd_T37 l0_7 a1).f2) ((rd_T37 l0_7 a1).f3) ((rd_T37 l0_7 a1).f4) ((rd_T37 l0_7 a1).f5))) = some r := H
  have A11 := Aside0.mk A110
  clear A110
  by_cases c12 : t134 = true
  case neg =>
   replace c12 := Bool.eq_false_iff.mpr c12
   subst c12
   rw [if_neg (show ¬ (false = true) by decide)] at H
   have H' := Aside0.mk H
   clear H
   have hnb17 := NB133_131.out
   have hnc17 := NB131_133.out
   have z18 := bk6 BK133
   have z19 := bk8 BK131
   go_wp2_with (first | ((with_reducible refine gate_callee (f := 21) rfl ?_); refine goesK (some 22) Try.func21 #[.int .i64 ((rd_T37 l0_7 a1).f0), .int .i64 0, .int .i64 a0_5] ?_; (with_reducible refine (config_in.calls ((rd_T37 l0_7 a1).f0) 0 a0_5 false _ A11.out).mono ?_); rintro e w' ⟨rfl, ⟨nd, rfl⟩⟩; refine ⟨_, rfl, ?_⟩))
   go_meet
   case rel => exact ⟨_, (true), (by first | rfl | (simp; done) | (simp [*]; done)), H', ⟨by first | omega | exact Nat.le_refl _⟩, (sKq0 BK131), (sKq0 BK133), (sB0 HB)⟩
  subst c12
  rw [if_pos rfl] at H
  replace H := Option.bind_eq_some_iff.mp H
  obtain ⟨t135, A130, H⟩ := H
  replace H : (config_station.j0 k a1 (!t135) a0_0 a0_1 a0_2 a0_3 a0_4 a0_5 l0_6 l0_7 ((rd_T37 l0_7 a1).f0) ((rd_T37 l0_7 a1).f1) ((rd_T37 l0_7 a1).f2) ((rd_T37 l0_7 a1).f3) ((rd_T37 l0_7 a1).f4) ((rd_T37 l0_7 a1).f5)) = some r := H
  have A13 := Aside0.mk A130
  clear A130
  have H' := Aside0.mk H
  clear H
  have hnb14 := NB133_131.out
  have hnc14 := NB131_133.out
  have z15 := bk6 BK133
  have z16 := bk8 BK131
  go_wp2_with (first | ((with_reducible refine gate_callee (f := 21) rfl ?_); refine goesK (some 22) Try.func21 #[.int .i64 ((rd_T37 l0_7 a1).f0), .int .i64 0, .int .i64 a0_5] ?_; (with_reducible refine (config_in.calls ((rd_T37 l0_7 a1).f0) 0 a0_5 true _ A11.out).mono ?_); rintro e w' ⟨rfl, ⟨nd, rfl⟩⟩; refine ⟨_, rfl, ?_⟩) | (go_at_call 21; (with_reducible refine (config_in.calls ((rd_T37 l0_7 a1).f1) 1 1000 t135 _ A13.out).mono ?_); rintro e w' ⟨rfl, ⟨nd, rfl⟩⟩))
  go_meet
  case rel => exact ⟨_, (!t135), (by first | rfl | (simp; done) | (simp [*]; done)), H', ⟨by first | omega | exact Nat.le_refl _⟩, (sKq0 BK131), (sKq0 BK133), (sB0 HB)⟩
 clear HC5
 (try clear c3); (try clear c3b0); (try clear c4); (try clear c4b0); (try clear c12); (try clear hx132_0); (try clear hx132_1); (try clear hx132_2); (try clear hx132_3); (try clear hx132_4); (try clear hx132_5); (try clear p132); (try clear q132)
 obtain ⟨kq, x17_4, rfl, HA, HJ4, BK131, BK133, HB⟩ := hcut
 cases kq with
 | zero => exact absurd HA.out (by simp [config_station.j0])
 | succ kj4 =>
  have H := HA.out
  clear HA
  simp only [config_station.j0] at H
  by_cases c20 : x17_4 = true
  ·subst c20
   rw [if_pos rfl] at H
   obtain rfl := Option.some.inj H
   go_wp2
   go_ret
   exact sEnd HB
  ·replace c20 := Bool.eq_false_iff.mpr c20
   subst c20
   rw [if_neg (show ¬ (false = true) by decide)] at H
   replace H := Option.bind_eq_some_iff.mp H
   obtain ⟨t136, A210, H⟩ := H
   replace H : (if t136 < a1 then (some 14) else ((image_Lay.f kj4 ((rd_T37 l0_7 a1).f2) ((rd_T37 l0_7 a1).f4) l0_6).bind fun bt137 => (if bt137.1 = 0 then ((verify_Check.f ((rd_T37 l0_7 a1).f3)).bind fun bt139 => (if bt139.1 = 0 then ((image_Reach.f kj4 ((rd_T37 l0_7 a1).f5) l0_6).bind fun bt141 => (if bt141.1 = 0 then ((config_owns.f a0_0 a0_1 a0_2 a0_3 a0_4 a0_5 l0_6 l0_7 ((rd_T37 l0_7 a1).f0) ((rd_T37 l0_7 a1).f1) ((rd_T37 l0_7 a1).f2) ((rd_T37 l0_7 a1).f3) ((rd_T37 l0_7 a1).f4) ((rd_T37 l0_7 a1).f5)).bind fun t143 => (if t143 = true then (some 0) else (some 5))) else (some bt141.1))) else (some bt139.1))) else (some bt137.1)))) = some r := H
   have A21 := Aside0.mk A210
   clear A210
   by_cases c22 : t136 < a1
   ·rw [if_pos c22] at H
    have c22b0 : decide (t136 < a1) = true := decide_eq_true c22
    clear c22
    obtain rfl := Option.some.inj H
    have hnb23 := NB131_133.out
    have hnc23 := NB133_131.out
    have z24 := bk8 BK131
    have z25 := bk6 BK133
    go_wp2_with (first | ((with_reducible refine gate_callee (f := 26) rfl ?_); refine goesK (some 34) Try.func26 #[.agg #[.int .i64 a0_0, .int .i64 a0_1, .int .i64 a0_2, .int .i64 a0_3, .int .i64 a0_4, .int .i64 a0_5, .slice A0_6 l0_6.length c0_6, .slice (some ad132) l0_7.length c0_7], .int .i64 ((rd_T37 l0_7 a1).f0)] ?_; (with_reducible refine (config_place.calls a0_0 a0_1 a0_2 a0_3 a0_4 a0_5 _ _ l0_6 _ _ l0_7 ((rd_T37 l0_7 a1).f0) t136 _ ?side1 ?side2 ?side3 ?side4 A21.out).mono ?_); (case side1 => exact sC HR0_6 HB); (case side2 => exact HC0_6.out); (case side3 => exact sC HR0_7 HB); (case side4 => exact HC0_7.out); rintro e w26 ⟨rfl, hb⟩; refine ⟨_, rfl, ?_⟩; replace BK131 := sK BK131 hb; replace BK133 := sK BK133 hb; replace HB := sB HB hb; (try clear hb)))
    go_ret
    exact sEnd HB
   ·rw [if_neg c22] at H
    have c22b0 : decide (t136 < a1) = false := decide_eq_false c22
    clear c22
    replace H := Option.bind_eq_some_iff.mp H
    obtain ⟨⟨t137, t138⟩, A270, H⟩ := H
    replace H : (if t137 = 0 then ((verify_Check.f ((rd_T37 l0_7 a1).f3)).bind fun bt139 => (if bt139.1 = 0 then ((image_Reach.f kj4 ((rd_T37 l0_7 a1).f5) l0_6).bind fun bt141 => (if bt141.1 = 0 then ((config_owns.f a0_0 a0_1 a0_2 a0_3 a0_4 a0_5 l0_6 l0_7 ((rd_T37 l0_7 a1).f0) ((rd_T37 l0_7 a1).f1) ((rd_T37 l0_7 a1).f2) ((rd_T37 l0_7 a1).f3) ((rd_T37 l0_7 a1).f4) ((rd_T37 l0_7 a1).f5)).bind fun t143 => (if t143 = true then (some 0) else (some 5))) else (some bt141.1))) else (some bt139.1))) else (some t137)) = some r := H
    have A27 := Aside0.mk A270
    clear A270
    by_cases c28 : t137 = 0
    ·rw [if_pos c28] at H
     have c28b0 : (t137 == 0) = true := beq_iff_eq.mpr c28
     have c28b1 : (t137 != 0) = false := bne_eq_false_iff_eq.mpr c28
     clear c28
     replace H := Option.bind_eq_some_iff.mp H
     obtain ⟨⟨t139, t140⟩, A290, H⟩ := H
     replace H : (if t139 = 0 then ((image_Reach.f kj4 ((rd_T37 l0_7 a1).f5) l0_6).bind fun bt141 => (if bt141.1 = 0 then ((config_owns.f a0_0 a0_1 a0_2 a0_3 a0_4 a0_5 l0_6 l0_7 ((rd_T37 l0_7 a1).f0) ((rd_T37 l0_7 a1).f1) ((rd_T37 l0_7 a1).f2) ((rd_T37 l0_7 a1).f3) ((rd_T37 l0_7 a1).f4) ((rd_T37 l0_7 a1).f5)).bind fun t143 => (if t143 = true then (some 0) else (some 5))) else (some bt141.1))) else (some t139)) = some r := H
     have A29 := Aside0.mk A290
     clear A290
     by_cases c30 : t139 = 0
     ·rw [if_pos c30] at H
      have c30b0 : (t139 == 0) = true := beq_iff_eq.mpr c30
      have c30b1 : (t139 != 0) = false := bne_eq_false_iff_eq.mpr c30
      clear c30
      replace H := Option.bind_eq_some_iff.mp H
      obtain ⟨⟨t141, t142⟩, A310, H⟩ := H
      replace H : (if t141 = 0 then ((config_owns.f a0_0 a0_1 a0_2 a0_3 a0_4 a0_5 l0_6 l0_7 ((rd_T37 l0_7 a1).f0) ((rd_T37 l0_7 a1).f1) ((rd_T37 l0_7 a1).f2) ((rd_T37 l0_7 a1).f3) ((rd_T37 l0_7 a1).f4) ((rd_T37 l0_7 a1).f5)).bind fun t143 => (if t143 = true then (some 0) else (some 5))) else (some t141)) = some r := H
      have A31 := Aside0.mk A310
      clear A310
      by_cases c32 : t141 = 0
      ·rw [if_pos c32] at H
       have c32b0 : (t141 == 0) = true := beq_iff_eq.mpr c32
       have c32b1 : (t141 != 0) = false := bne_eq_false_iff_eq.mpr c32
       clear c32
       replace H := Option.bind_eq_some_iff.mp H
       obtain ⟨t143, A330, H⟩ := H
       replace H : (if t143 = true then (some 0) else (some 5)) = some r := H
       have A33 := Aside0.mk A330
       clear A330
       by_cases c34 : t143 = true
       ·subst c34
        rw [if_pos rfl] at H
        obtain rfl := Option.some.inj H
        have hnb35 := NB131_133.out
        have hnc35 := NB133_131.out
        have z36 := bk8 BK131
        have z37 := bk6 BK133
        go_wp2_with (first | ((with_reducible refine gate_callee (f := 26) rfl ?_); refine goesK (some 34) Try.func26 #[.agg #[.int .i64 a0_0, .int .i64 a0_1, .int .i64 a0_2, .int .i64 a0_3, .int .i64 a0_4, .int .i64 a0_5, .slice A0_6 l0_6.length c0_6, .slice (some ad132) l0_7.length c0_7], .int .i64 ((rd_T37 l0_7 a1).f0)] ?_; (with_reducible refine (config_place.calls a0_0 a0_1 a0_2 a0_3 a0_4 a0_5 _ _ l0_6 _ _ l0_7 ((rd_T37 l0_7 a1).f0) t136 _ ?side1 ?side2 ?side3 ?side4 A21.out).mono ?_); (case side1 => exact sC HR0_6 HB); (case side2 => exact HC0_6.out); (case side3 => exact sC HR0_7 HB); (case side4 => exact HC0_7.out); rintro e w38 ⟨rfl, hb⟩; refine ⟨_, rfl, ?_⟩; replace BK131 := sK BK131 hb; replace BK133 := sK BK133 hb; replace HB := sB HB hb; (try clear hb); have z39 := bk6 BK133; have z40 := bk8 BK131) | ((with_reducible refine gate_callee (f := 37) rfl ?_); refine goesK (some 44) Try.func37 #[.int .i64 ((rd_T37 l0_7 a1).f2), .slice A132_4 ((rd_T37 l0_7 a1).f4).length c132_4, .slice A0_6 l0_6.length c0_6] ?_; (with_reducible refine (image_Lay.calls kj4 ((rd_T37 l0_7 a1).f2) _ _ ((rd_T37 l0_7 a1).f4) _ _ l0_6 t137 t138 _ ?side1 ?side2 ?side3 ?side4 A27.out).mono ?_); (case side1 => exact sC HR132_4 HB); (case side2 => exact HC132_4.out); (case side3 => exact sC HR0_6 HB); (case side4 => exact HC0_6.out); rintro e w41 ⟨rfl, hb⟩; refine ⟨_, rfl, ?_⟩; replace BK131 := sK BK131 hb; replace BK133 := sK BK133 hb; replace HB := sB HB hb; (try clear hb); have z42 := bk6 BK133) | ((with_reducible refine gate_callee (f := 38) rfl ?_); refine goesK (some 53) Try.func38 #[.slice A132_3 ((rd_T37 l0_7 a1).f3).length c132_3] ?_; (with_reducible refine (verify_Check.calls _ _ ((rd_T37 l0_7 a1).f3) t139 t140 _ ?side1 ?side2 A29.out).mono ?_); (case side1 => exact sC HR132_3 HB); (case side2 => exact HC132_3.out); rintro e w43 ⟨rfl, hb⟩; refine ⟨_, rfl, ?_⟩; replace BK131 := sK BK131 hb; replace BK133 := sK BK133 hb; replace HB := sB HB hb; (try clear hb); have z44 := bk6 BK133; have z45 := bk8 BK131) | ((with_reducible refine gate_callee (f := 39) rfl ?_); refine goesK (some 64) Try.func39 #[.slice A132_5 ((rd_T37 l0_7 a1).f5).length c132_5, .slice A0_6 l0_6.length c0_6] ?_; (with_reducible refine (image_Reach.calls kj4 _ _ ((rd_T37 l0_7 a1).f5) _ _ l0_6 t141 t142 _ ?side1 ?side2 ?side3 ?side4 A31.out).mono ?_); (case side1 => exact sC HR132_5 HB); (case side2 => exact HC132_5.out); (case side3 => exact sC HR0_6 HB); (case side4 => exact HC0_6.out); rintro e w46 ⟨rfl, hb⟩; refine ⟨_, rfl, ?_⟩; replace BK131 := sK BK131 hb; replace BK133 := sK BK133 hb; replace HB := sB HB hb; (try clear hb); have z47 := bk8 BK131; have z48 := bk6 BK133) | ((with_reducible refine gate_callee (f := 40) rfl ?_); refine goesK (some 72) Try.func40 #[.agg #[.int .i64 a0_0, .int .i64 a0_1, .int .i64 a0_2, .int .i64 a0_3, .int .i64 a0_4, .int .i64 a0_5, .slice A0_6 l0_6.length c0_6, .slice (some ad132) l0_7.length c0_7], .agg #[.int .i64 ((rd_T37 l0_7 a1).f0), .int .i64 ((rd_T37 l0_7 a1).f1), .int .i64 ((rd_T37 l0_7 a1).f2), .slice A132_3 ((rd_T37 l0_7 a1).f3).length c132_3, .slice A132_4 ((rd_T37 l0_7 a1).f4).length c132_4, .slice A132_5 ((rd_T37 l0_7 a1).f5).length c132_5]] ?_; (with_reducible refine (config_owns.calls a0_0 a0_1 a0_2 a0_3 a0_4 a0_5 _ _ l0_6 _ _ l0_7 ((rd_T37 l0_7 a1).f0) ((rd_T37 l0_7 a1).f1) ((rd_T37 l0_7 a1).f2) _ _ ((rd_T37 l0_7 a1).f3) _ _ ((rd_T37 l0_7 a1).f4) _ _ ((rd_T37 l0_7 a1).f5) true _ ?side1 ?side2 ?side3 ?side4 ?side5 ?side6 ?side7 ?side8 ?side9 ?side10 A33.out).mono ?_); (case side1 => exact sC HR0_6 HB); (case side2 => exact HC0_6.out); (case side3 => exact sC HR0_7 HB); (case side4 => exact HC0_7.out); (case side5 => exact sC HR132_3 HB); (case side6 => exact HC132_3.out); (case side7 => exact sC HR132_4 HB); (case side8 => exact HC132_4.out); (case side9 => exact sC HR132_5 HB); (case side10 => exact HC132_5.out); rintro e w49 ⟨rfl, hb⟩; refine ⟨_, rfl, ?_⟩; replace BK131 := sK BK131 hb; replace BK133 := sK BK133 hb; replace HB := sB HB hb; (try clear hb)))
        go_ret
        exact sEnd HB
       ·replace c34 := Bool.eq_false_iff.mpr c34
        subst c34
        rw [if_neg (show ¬ (false = true) by decide)] at H
        obtain rfl := Option.some.inj H
        have hnb50 := NB131_133.out
        have hnc50 := NB133_131.out
        have z51 := bk8 BK131
        have z52 := bk6 BK133
        go_wp2_with (first | ((with_reducible refine gate_callee (f := 26) rfl ?_); refine goesK (some 34) Try.func26 #[.agg #[.int .i64 a0_0, .int .i64 a0_1, .int .i64 a0_2, .int .i64 a0_3, .int .i64 a0_4, .int .i64 a0_5, .slice A0_6 l0_6.length c0_6, .slice (some ad132) l0_7.length c0_7], .int .i64 ((rd_T37 l0_7 a1).f0)] ?_; (with_reducible refine (config_place.calls a0_0 a0_1 a0_2 a0_3 a0_4 a0_5 _ _ l0_6 _ _ l0_7 ((rd_T37 l0_7 a1).f0) t136 _ ?side1 ?side2 ?side3 ?side4 A21.out).mono ?_); (case side1 => exact sC HR0_6 HB); (case side2 => exact HC0_6.out); (case side3 => exact sC HR0_7 HB); (case side4 => exact HC0_7.out); rintro e w53 ⟨rfl, hb⟩; refine ⟨_, rfl, ?_⟩; replace BK131 := sK BK131 hb; replace BK133 := sK BK133 hb; replace HB := sB HB hb; (try clear hb); have z54 := bk6 BK133; have z55 := bk8 BK131) | ((with_reducible refine gate_callee (f := 37) rfl ?_); refine goesK (some 44) Try.func37 #[.int .i64 ((rd_T37 l0_7 a1).f2), .slice A132_4 ((rd_T37 l0_7 a1).f4).length c132_4, .slice A0_6 l0_6.length c0_6] ?_; (with_reducible refine (image_Lay.calls kj4 ((rd_T37 l0_7 a1).f2) _ _ ((rd_T37 l0_7 a1).f4) _ _ l0_6 t137 t138 _ ?side1 ?side2 ?side3 ?side4 A27.out).mono ?_); (case side1 => exact sC HR132_4 HB); (case side2 => exact HC132_4.out); (case side3 => exact sC HR0_6 HB); (case side4 => exact HC0_6.out); rintro e w56 ⟨rfl, hb⟩; refine ⟨_, rfl, ?_⟩; replace BK131 := sK BK131 hb; replace BK133 := sK BK133 hb; replace HB := sB HB hb; (try clear hb); have z57 := bk6 BK133) | ((with_reducible refine gate_callee (f := 38) rfl ?_); refine goesK (some 53) Try.func38 #[.slice A132_3 ((rd_T37 l0_7 a1).f3).length c132_3] ?_; (with_reducible refine (verify_Check.calls _ _ ((rd_T37 l0_7 a1).f3) t139 t140 _ ?side1 ?side2 A29.out).mono ?_); (case side1 => exact sC HR132_3 HB); (case side2 => exact HC132_3.out); rintro e w58 ⟨rfl, hb⟩; refine ⟨_, rfl, ?_⟩; replace BK131 := sK BK131 hb; replace BK133 := sK BK133 hb; replace HB := sB HB hb; (try clear hb); have z59 := bk6 BK133; have z60 := bk8 BK131) | ((with_reducible refine gate_callee (f := 39) rfl ?_); refine goesK (some 64) Try.func39 #[.slice A132_5 ((rd_T37 l0_7 a1).f5).length c132_5, .slice A0_6 l0_6.length c0_6] ?_; (with_reducible refine (image_Reach.calls kj4 _ _ ((rd_T37 l0_7 a1).f5) _ _ l0_6 t141 t142 _ ?side1 ?side2 ?side3 ?side4 A31.out).mono ?_); (case side1 => exact sC HR132_5 HB); (case side2 => exact HC132_5.out); (case side3 => exact sC HR0_6 HB); (case side4 => exact HC0_6.out); rintro e w61 ⟨rfl, hb⟩; refine ⟨_, rfl, ?_⟩; replace BK131 := sK BK131 hb; replace BK133 := sK BK133 hb; replace HB := sB HB hb; (try clear hb); have z62 := bk8 BK131; have z63 := bk6 BK133) | ((with_reducible refine gate_callee (f := 40) rfl ?_); refine goesK (some 72) Try.func40 #[.agg #[.int .i64 a0_0, .int .i64 a0_1, .int .i64 a0_2, .int .i64 a0_3, .int .i64 a0_4, .int .i64 a0_5, .slice A0_6 l0_6.length c0_6, .slice (some ad132) l0_7.length c0_7], .agg #[.int .i64 ((rd_T37 l0_7 a1).f0), .int .i64 ((rd_T37 l0_7 a1).f1), .int .i64 ((rd_T37 l0_7 a1).f2), .slice A132_3 ((rd_T37 l0_7 a1).f3).length c132_3, .slice A132_4 ((rd_T37 l0_7 a1).f4).length c132_4, .slice A132_5 ((rd_T37 l0_7 a1).f5).length c132_5]] ?_; (with_reducible refine (config_owns.calls a0_0 a0_1 a0_2 a0_3 a0_4 a0_5 _ _ l0_6 _ _ l0_7 ((rd_T37 l0_7 a1).f0) ((rd_T37 l0_7 a1).f1) ((rd_T37 l0_7 a1).f2) _ _ ((rd_T37 l0_7 a1).f3) _ _ ((rd_T37 l0_7 a1).f4) _ _ ((rd_T37 l0_7 a1).f5) false _ ?side1 ?side2 ?side3 ?side4 ?side5 ?side6 ?side7 ?side8 ?side9 ?side10 A33.out).mono ?_); (case side1 => exact sC HR0_6 HB); (case side2 => exact HC0_6.out); (case side3 => exact sC HR0_7 HB); (case side4 => exact HC0_7.out); (case side5 => exact sC HR132_3 HB); (case side6 => exact HC132_3.out); (case side7 => exact sC HR132_4 HB); (case side8 => exact HC132_4.out); (case side9 => exact sC HR132_5 HB); (case side10 => exact HC132_5.out); rintro e w64 ⟨rfl, hb⟩; refine ⟨_, rfl, ?_⟩; replace BK131 := sK BK131 hb; replace BK133 := sK BK133 hb; replace HB := sB HB hb; (try clear hb)))
        go_ret
        exact sEnd HB
      ·rw [if_neg c32] at H
       have c32b0 : (t141 == 0) = false := beq_eq_false_iff_ne.mpr c32
       have c32b1 : (t141 != 0) = true := bne_iff_ne.mpr c32
       obtain rfl := Option.some.inj H
       have hnb65 := NB131_133.out
       have hnc65 := NB133_131.out
       have z66 := bk8 BK131
       have z67 := bk6 BK133
       go_wp2_with (first | ((with_reducible refine gate_callee (f := 26) rfl ?_); refine goesK (some 34) Try.func26 #[.agg #[.int .i64 a0_0, .int .i64 a0_1, .int .i64 a0_2, .int .i64 a0_3, .int .i64 a0_4, .int .i64 a0_5, .slice A0_6 l0_6.length c0_6, .slice (some ad132) l0_7.length c0_7], .int .i64 ((rd_T37 l0_7 a1).f0)] ?_; (with_reducible refine (config_place.calls a0_0 a0_1 a0_2 a0_3 a0_4 a0_5 _ _ l0_6 _ _ l0_7 ((rd_T37 l0_7 a1).f0) t136 _ ?side1 ?side2 ?side3 ?side4 A21.out).mono ?_); (case side1 => exact sC HR0_6 HB); (case side2 => exact HC0_6.out); (case side3 => exact sC HR0_7 HB); (case side4 => exact HC0_7.out); rintro e w68 ⟨rfl, hb⟩; refine ⟨_, rfl, ?_⟩; replace BK131 := sK BK131 hb; replace BK133 := sK BK133 hb; replace HB := sB HB hb; (try clear hb); have z69 := bk6 BK133; have z70 := bk8 BK131) | ((with_reducible refine gate_callee (f := 37) rfl ?_); refine goesK (some 44) Try.func37 #[.int .i64 ((rd_T37 l0_7 a1).f2), .slice A132_4 ((rd_T37 l0_7 a1).f4).length c132_4, .slice A0_6 l0_6.length c0_6] ?_; (with_reducible refine (image_Lay.calls kj4 ((rd_T37 l0_7 a1).f2) _ _ ((rd_T37 l0_7 a1).f4) _ _ l0_6 t137 t138 _ ?side1 ?side2 ?side3 ?side4 A27.out).mono ?_); (case side1 => exact sC HR132_4 HB); (case side2 => exact HC132_4.out); (case side3 => exact sC HR0_6 HB); (case side4 => exact HC0_6.out); rintro e w71 ⟨rfl, hb⟩; refine ⟨_, rfl, ?_⟩; replace BK131 := sK BK131 hb; replace BK133 := sK BK133 hb; replace HB := sB HB hb; (try clear hb); have z72 := bk6 BK133) | ((with_reducible refine gate_callee (f := 38) rfl ?_); refine goesK (some 53) Try.func38 #[.slice A132_3 ((rd_T37 l0_7 a1).f3).length c132_3] ?_; (with_reducible refine (verify_Check.calls _ _ ((rd_T37 l0_7 a1).f3) t139 t140 _ ?side1 ?side2 A29.out).mono ?_); (case side1 => exact sC HR132_3 HB); (case side2 => exact HC132_3.out); rintro e w73 ⟨rfl, hb⟩; refine ⟨_, rfl, ?_⟩; replace BK131 := sK BK131 hb; replace BK133 := sK BK133 hb; replace HB := sB HB hb; (try clear hb); have z74 := bk6 BK133; have z75 := bk8 BK131) | ((with_reducible refine gate_callee (f := 39) rfl ?_); refine goesK (some 64) Try.func39 #[.slice A132_5 ((rd_T37 l0_7 a1).f5).length c132_5, .slice A0_6 l0_6.length c0_6] ?_; (with_reducible refine (image_Reach.calls kj4 _ _ ((rd_T37 l0_7 a1).f5) _ _ l0_6 t141 t142 _ ?side1 ?side2 ?side3 ?side4 A31.out).mono ?_); (case side1 => exact sC HR132_5 HB); (case side2 => exact HC132_5.out); (case side3 => exact sC HR0_6 HB); (case side4 => exact HC0_6.out); rintro e w76 ⟨rfl, hb⟩; refine ⟨_, rfl, ?_⟩; replace BK131 := sK BK131 hb; replace BK133 := sK BK133 hb; replace HB := sB HB hb; (try clear hb)))
       go_ret
       exact sEnd HB
     ·rw [if_neg c30] at H
      have c30b0 : (t139 == 0) = false := beq_eq_false_iff_ne.mpr c30
      have c30b1 : (t139 != 0) = true := bne_iff_ne.mpr c30
      obtain rfl := Option.some.inj H
      have hnb77 := NB131_133.out
      have hnc77 := NB133_131.out
      have z78 := bk8 BK131
      have z79 := bk6 BK133
      go_wp2_with (first | ((with_reducible refine gate_callee (f := 26) rfl ?_); refine goesK (some 34) Try.func26 #[.agg #[.int .i64 a0_0, .int .i64 a0_1, .int .i64 a0_2, .int .i64 a0_3, .int .i64 a0_4, .int .i64 a0_5, .slice A0_6 l0_6.length c0_6, .slice (some ad132) l0_7.length c0_7], .int .i64 ((rd_T37 l0_7 a1).f0)] ?_; (with_reducible refine (config_place.calls a0_0 a0_1 a0_2 a0_3 a0_4 a0_5 _ _ l0_6 _ _ l0_7 ((rd_T37 l0_7 a1).f0) t136 _ ?side1 ?side2 ?side3 ?side4 A21.out).mono ?_); (case side1 => exact sC HR0_6 HB); (case side2 => exact HC0_6.out); (case side3 => exact sC HR0_7 HB); (case side4 => exact HC0_7.out); rintro e w80 ⟨rfl, hb⟩; refine ⟨_, rfl, ?_⟩; replace BK131 := sK BK131 hb; replace BK133 := sK BK133 hb; replace HB := sB HB hb; (try clear hb); have z81 := bk6 BK133; have z82 := bk8 BK131) | ((with_reducible refine gate_callee (f := 37) rfl ?_); refine goesK (some 44) Try.func37 #[.int .i64 ((rd_T37 l0_7 a1).f2), .slice A132_4 ((rd_T37 l0_7 a1).f4).length c132_4, .slice A0_6 l0_6.length c0_6] ?_; (with_reducible refine (image_Lay.calls kj4 ((rd_T37 l0_7 a1).f2) _ _ ((rd_T37 l0_7 a1).f4) _ _ l0_6 t137 t138 _ ?side1 ?side2 ?side3 ?side4 A27.out).mono ?_); (case side1 => exact sC HR132_4 HB); (case side2 => exact HC132_4.out); (case side3 => exact sC HR0_6 HB); (case side4 => exact HC0_6.out); rintro e w83 ⟨rfl, hb⟩; refine ⟨_, rfl, ?_⟩; replace BK131 := sK BK131 hb; replace BK133 := sK BK133 hb; replace HB := sB HB hb; (try clear hb); have z84 := bk6 BK133) | ((with_reducible refine gate_callee (f := 38) rfl ?_); refine goesK (some 53) Try.func38 #[.slice A132_3 ((rd_T37 l0_7 a1).f3).length c132_3] ?_; (with_reducible refine (verify_Check.calls _ _ ((rd_T37 l0_7 a1).f3) t139 t140 _ ?side1 ?side2 A29.out).mono ?_); (case side1 => exact sC HR132_3 HB); (case side2 => exact HC132_3.out); rintro e w85 ⟨rfl, hb⟩; refine ⟨_, rfl, ?_⟩; replace BK131 := sK BK131 hb; replace BK133 := sK BK133 hb; replace HB := sB HB hb; (try clear hb)))
      go_ret
      exact sEnd HB
    ·rw [if_neg c28] at H
     have c28b0 : (t137 == 0) = false := beq_eq_false_iff_ne.mpr c28
     have c28b1 : (t137 != 0) = true := bne_iff_ne.mpr c28
     obtain rfl := Option.some.inj H
     have hnb86 := NB131_133.out
     have hnc86 := NB133_131.out
     have z87 := bk8 BK131
     have z88 := bk6 BK133
     go_wp2_with (first | ((with_reducible refine gate_callee (f := 26) rfl ?_); refine goesK (some 34) Try.func26 #[.agg #[.int .i64 a0_0, .int .i64 a0_1, .int .i64 a0_2, .int .i64 a0_3, .int .i64 a0_4, .int .i64 a0_5, .slice A0_6 l0_6.length c0_6, .slice (some ad132) l0_7.length c0_7], .int .i64 ((rd_T37 l0_7 a1).f0)] ?_; (with_reducible refine (config_place.calls a0_0 a0_1 a0_2 a0_3 a0_4 a0_5 _ _ l0_6 _ _ l0_7 ((rd_T37 l0_7 a1).f0) t136 _ ?side1 ?side2 ?side3 ?side4 A21.out).mono ?_); (case side1 => exact sC HR0_6 HB); (case side2 => exact HC0_6.out); (case side3 => exact sC HR0_7 HB); (case side4 => exact HC0_7.out); rintro e w89 ⟨rfl, hb⟩; refine ⟨_, rfl, ?_⟩; replace BK131 := sK BK131 hb; replace BK133 := sK BK133 hb; replace HB := sB HB hb; (try clear hb); have z90 := bk6 BK133; have z91 := bk8 BK131) | ((with_reducible refine gate_callee (f := 37) rfl ?_); refine goesK (some 44) Try.func37 #[.int .i64 ((rd_T37 l0_7 a1).f2), .slice A132_4 ((rd_T37 l0_7 a1).f4).length c132_4, .slice A0_6 l0_6.length c0_6] ?_; (with_reducible refine (image_Lay.calls kj4 ((rd_T37 l0_7 a1).f2) _ _ ((rd_T37 l0_7 a1).f4) _ _ l0_6 t137 t138 _ ?side1 ?side2 ?side3 ?side4 A27.out).mono ?_); (case side1 => exact sC HR132_4 HB); (case side2 => exact HC132_4.out); (case side3 => exact sC HR0_6 HB); (case side4 => exact HC0_6.out); rintro e w92 ⟨rfl, hb⟩; refine ⟨_, rfl, ?_⟩; replace BK131 := sK BK131 hb; replace BK133 := sK BK133 hb; replace HB := sB HB hb; (try clear hb)))
     go_ret
     exact sEnd HB

/-! ### config_Check: function 8 -/
def config_Check.l0 : Nat → Int → Int → Int → Int → Int → Int → Int → Int → List (S63) → List (S37) → Option (Int × Int)
 | 0, _, _, _, _, _, _, _, _, _, _ => none
 | k + 1, x29, x30, x145000, x145001, x145002, x145003, x145004, x145005, x145006, x145007 => if x30 < x29 then ((config_station.f k x145000 x145001 x145002 x145003 x145004 x145005 x145006 x145007 x30).bind fun t149 => (if t149 = 0 then (config_Check.l0 k x29 (wrap64 (x30 + 1)) x145000 x145001 x145002 x145003 x145004 x145005 x145006 x145007) else (some (t149, wrap64 (100 + x30))))) else (some (0, 0))
def config_Check.f (k : Nat) (a0_0 a0_1 a0_2 a0_3 a0_4 a0_5 : Int) (l0_6 : List (S63)) (l0_7 : List (S37)) : Option (Int × Int) := (config_numbers.f a0_0 a0_1 a0_2 a0_3 a0_4 a0_5 l0_6 l0_7).bind fun t145 => (if t145 = true then ((blocks_Check.f k l0_6).bind fun bt146 => (if bt146.1 = 0 then ((config_in.f (l0_7.length : Int) 1 32).bind fun t148 => (if t148 = true then (config_Check.l0 k (l0_7.length : Int) 0 a0_0 a0_1 a0_2 a0_3 a0_4 a0_5 l0_6 l0_7) else (some (2, 100)))) else (some (bt146.1, wrap64 (1 + bt146.2))))) else (some (3, 0)))
theorem config_Check.mono_l : ∀ k, (∀ y0 y1 y2 y3 y4 y5 y6 y7 y8 y9, LeO (config_Check.l0 k y0 y1 y2 y3 y4 y5 y6 y7 y8 y9) (config_Check.l0 (k + 1) y0 y1 y2 y3 y4 y5 y6 y7 y8 y9))
 | 0 => fun _ _ _ _ _ _ _ _ _ _ r h => by simp [config_Check.l0] at h
 | k + 1 => by
  have ih0 := config_Check.mono_l k
  ·intro y0 y1 y2 y3 y4 y5 y6 y7 y8 y9
   unfold config_Check.l0
   repeat' first
   | (with_reducible exact ih0 _ _ _ _ _ _ _ _ _ _)
   | (with_reducible exact blocks_Check.mono _ _)
   | (with_reducible exact config_station.mono _ _ _ _ _ _ _ _ _ _)
   | (with_reducible exact LeO.refl _)
   | (with_reducible exact LeO.none _)
   | (with_reducible refine LeO.ite ?_ ?_)
   | (with_reducible refine LeO.bind ?_ (fun _ => ?_))
   | exact ih0 _ _ _ _ _ _ _ _ _ _
   | exact blocks_Check.mono _ _
   | exact config_station.mono _ _ _ _ _ _ _ _ _ _
   | exact LeO.none _
   | refine LeO.ite ?_ ?_
   | refine LeO.bind ?_ (fun _ => ?_)
theorem config_Check.mono : ∀ a0 a1 a2 a3 a4 a5 a6 a7 k, LeO (config_Check.f k a0 a1 a2 a3 a4 a5 a6 a7) (config_Check.f (k + 1) a0 a1 a2 a3 a4 a5 a6 a7) := by
 intro a0 a1 a2 a3 a4 a5 a6 a7 k
 have ih0 := config_Check.mono_l k
 unfold config_Check.f
 repeat' first
   | (with_reducible exact ih0 _ _ _ _ _ _ _ _ _ _)
   | (with_reducible exact blocks_Check.mono _ _)
   | (with_reducible exact config_station.mono _ _ _ _ _ _ _ _ _ _)
   | (with_reducible exact LeO.refl _)
   | (with_reducible exact LeO.none _)
   | (with_reducible refine LeO.ite ?_ ?_)
   | (with_reducible refine LeO.bind ?_ (fun _ => ?_))
   | exact ih0 _ _ _ _ _ _ _ _ _ _
   | exact blocks_Check.mono _ _
   | exact config_station.mono _ _ _ _ _ _ _ _ _ _
   | exact LeO.none _
   | refine LeO.ite ?_ ?_
   | refine LeO.bind ?_ (fun _ => ?_)
set_option maxHeartbeats 8000000 in
set_option maxRecDepth 100000 in
theorem config_Check.calls (k : Nat) (a0_0 a0_1 a0_2 a0_3 a0_4 a0_5 : Int) (A0_6 : Option Addr) (c0_6 : Nat) (l0_6 : List (S63)) (A0_7 : Option Addr) (c0_7 : Nat) (l0_7 : List (S37)) (r1 r2 : Int) (w : World) (hr0_6 : Kd.C k63 w A0_6 l0_6.length l0_6) (hc0_6 : l0_6.length ≤ c0_6) (hr0_7 : Kd.C k37 w A0_7 l0_7.length l0_7) (hc0_7 : l0_7.length ≤ c0_7) (h : config_Check.f k a0_0 a0_1 a0_2 a0_3 a0_4 a0_5 l0_6 l0_7 = some (r1, r2)) :
  Calls Try.prog 8 #[.agg #[.int .i64 a0_0, .int .i64 a0_1, .int .i64 a0_2, .int .i64 a0_3, .int .i64 a0_4, .int .i64 a0_5, .slice A0_6 l0_6.length c0_6, .slice A0_7 l0_7.length c0_7]] w fun e w' => e = .returned (.tuple #[.int .i64 r1, .int .i64 r2]) ∧ Below w.heap.size w w' := by
 have hu25 := Try.underlying25
 have HR0_6 := Aside0.mk hr0_6
 have HC0_6 := Aside0.mk hc0_6
 clear hr0_6 hc0_6
 have HR0_7 := Aside0.mk hr0_7
 have HC0_7 := Aside0.mk hc0_7
 clear hr0_7 hc0_7
 have HB := Aside0.mk (Below.refl w.heap.size w)
 have H : ((config_numbers.f a0_0 a0_1 a0_2 a0_3 a0_4 a0_5 l0_6 l0_7).bind fun t145 => (if t145 = true then ((blocks_Check.f k l0_6).bind fun bt146 => (if bt146.1 = 0 then ((config_in.f (l0_7.length : Int) 1 32).bind fun t148 => (if t148 = true then (config_Check.l0 k (l0_7.length : Int) 0 a0_0 a0_1 a0_2 a0_3 a0_4 a0_5 l0_6 l0_7) else (some (2, 100)))) else (some (bt146.1, wrap64 (1 + bt146.2))))) else (some (3, 0)))) = some (r1, r2) := h
 clear h
 replace H := Option.bind_eq_some_iff.mp H
 obtain ⟨t145, A20, H⟩ := H
 replace H : (if t145 = true then ((blocks_Check.f k l0_6).bind fun bt146 => (if bt146.1 = 0 then ((config_in.f (l0_7.length : Int) 1 32).bind fun t148 => (if t148 = true then (config_Check.l0 k (l0_7.length : Int) 0 a0_0 a0_1 a0_2 a0_3 a0_4 a0_5 l0_6 l0_7) else (some (2, 100)))) else (some (bt146.1, wrap64 (1 + bt146.2))))) else (some (3, 0))) = some (r1, r2) := H
 have A2 := Aside0.mk A20
 clear A20
 by_cases c3 : t145 = true
 case neg =>
  replace c3 := Bool.eq_false_iff.mpr c3
  subst c3
  rw [if_neg (show ¬ (false = true) by decide)] at H
  simp only [Option.some.injEq, Prod.mk.injEq] at H
  obtain ⟨rfl, rfl⟩ := H
  go_enter Try.func8, Try.ntmps8
  go_wp2_with (first | ((with_reducible refine gate_dst (N := 1) rfl ?_); refine boxK (N := 1) (#[.int .i64 a0_0, .int .i64 a0_1, .int .i64 a0_2, .int .i64 a0_3, .int .i64 a0_4, .int .i64 a0_5, .slice A0_6 l0_6.length c0_6, .slice A0_7 l0_7.length c0_7]) 25 ?_; intro gb144 hg w32 hbox hb; have BK144 := Aside0.mk (hbox); have GW144 := sG hg HB; have GE144 := sG hg HB; replace HB := sB HB hb; clear hb hbox hg; have z33 := bk8 BK144) | ((with_reducible refine gate_callee (f := 19) rfl ?_); refine goesK (some 9) Try.func19 #[.agg #[.int .i64 a0_0, .int .i64 a0_1, .int .i64 a0_2, .int .i64 a0_3, .int .i64 a0_4, .int .i64 a0_5, .slice A0_6 l0_6.length c0_6, .slice A0_7 l0_7.length c0_7]] ?_; (with_reducible refine (config_numbers.calls a0_0 a0_1 a0_2 a0_3 a0_4 a0_5 _ _ l0_6 _ _ l0_7 false _ ?side1 ?side2 ?side3 ?side4 A2.out).mono ?_); (case side1 => exact sC HR0_6 HB); (case side2 => exact HC0_6.out); (case side3 => exact sC HR0_7 HB); (case side4 => exact HC0_7.out); rintro e w34 ⟨rfl, hb⟩; refine ⟨_, rfl, ?_⟩; replace BK144 := sK BK144 hb; replace HB := sB HB hb; (try clear hb)))
  go_ret2
  exact sEnd HB
 subst c3
 rw [if_pos rfl] at H
 replace H := Option.bind_eq_some_iff.mp H
 obtain ⟨⟨t146, t147⟩, A40, H⟩ := H
 replace H : (if t146 = 0 then ((config_in.f (l0_7.length : Int) 1 32).bind fun t148 => (if t148 = true then (config_Check.l0 k (l0_7.length : Int) 0 a0_0 a0_1 a0_2 a0_3 a0_4 a0_5 l0_6 l0_7) else (some (2, 100)))) else (some (t146, wrap64 (1 + t147)))) = some (r1, r2) := H
 have A4 := Aside0.mk A40
 clear A40
 by_cases c5 : t146 = 0
 case neg =>
  rw [if_neg c5] at H
  have c5b0 : (t146 == 0) = false := beq_eq_false_iff_ne.mpr c5
  have c5b1 : (t146 != 0) = true := bne_iff_ne.mpr c5
  simp only [Option.some.injEq, Prod.mk.injEq] at H
  obtain ⟨rfl, rfl⟩ := H
  go_enter Try.func8, Try.ntmps8
  go_wp2_with (first | ((with_reducible refine gate_dst (N := 1) rfl ?_); refine boxK (N := 1) (#[.int .i64 a0_0, .int .i64 a0_1, .int .i64 a0_2, .int .i64 a0_3, .int .i64 a0_4, .int .i64 a0_5, .slice A0_6 l0_6.length c0_6, .slice A0_7 l0_7.length c0_7]) 25 ?_; intro gb144 hg w27 hbox hb; have BK144 := Aside0.mk (hbox); have GW144 := sG hg HB; have GE144 := sG hg HB; replace HB := sB HB hb; clear hb hbox hg; have z28 := bk8 BK144) | ((with_reducible refine gate_callee (f := 19) rfl ?_); refine goesK (some 9) Try.func19 #[.agg #[.int .i64 a0_0, .int .i64 a0_1, .int .i64 a0_2, .int .i64 a0_3, .int .i64 a0_4, .int .i64 a0_5, .slice A0_6 l0_6.length c0_6, .slice A0_7 l0_7.length c0_7]] ?_; (with_reducible refine (config_numbers.calls a0_0 a0_1 a0_2 a0_3 a0_4 a0_5 _ _ l0_6 _ _ l0_7 true _ ?side1 ?side2 ?side3 ?side4 A2.out).mono ?_); (case side1 => exact sC HR0_6 HB); (case side2 => exact HC0_6.out); (case side3 => exact sC HR0_7 HB); (case side4 => exact HC0_7.out); rintro e w29 ⟨rfl, hb⟩; refine ⟨_, rfl, ?_⟩; replace BK144 := sK BK144 hb; replace HB := sB HB hb; (try clear hb); have z30 := bk8 BK144) | ((with_reducible refine gate_callee (f := 20) rfl ?_); refine goesK (some 14) Try.func20 #[.slice A0_6 l0_6.length c0_6] ?_; (with_reducible refine (blocks_Check.calls k _ _ l0_6 t146 t147 _ ?side1 ?side2 A4.out).mono ?_); (case side1 => exact sC HR0_6 HB); (case side2 => exact HC0_6.out); rintro e w31 ⟨rfl, hb⟩; refine ⟨_, rfl, ?_⟩; replace BK144 := sK BK144 hb; replace HB := sB HB hb; (try clear hb)))
  go_ret2
  exact sEnd HB
 rw [if_pos c5] at H
 have c5b0 : (t146 == 0) = true := beq_iff_eq.mpr c5
 have c5b1 : (t146 != 0) = false := bne_eq_false_iff_eq.mpr c5
 clear c5
 replace H := Option.bind_eq_some_iff.mp H
 obtain ⟨t148, A60, H⟩ := H
 replace H : (if t148 = true then (config_Check.l0 k (l0_7.length : Int) 0 a0_0 a0_1 a0_2 a0_3 a0_4 a0_5 l0_6 l0_7) else (some (2, 100))) = some (r1, r2) := H
 have A6 := Aside0.mk A60
 clear A60
 by_cases c7 : t148 = true
 case neg =>
  replace c7 := Bool.eq_false_iff.mpr c7
  subst c7
  rw [if_neg (show ¬ (false = true) by decide)] at H
  simp only [Option.some.injEq, Prod.mk.injEq] at H
  obtain ⟨rfl, rfl⟩ := H
  go_enter Try.func8, Try.ntmps8
  go_wp2_with (first | ((with_reducible refine gate_dst (N := 1) rfl ?_); refine boxK (N := 1) (#[.int .i64 a0_0, .int .i64 a0_1, .int .i64 a0_2, .int .i64 a0_3, .int .i64 a0_4, .int .i64 a0_5, .slice A0_6 l0_6.length c0_6, .slice A0_7 l0_7.length c0_7]) 25 ?_; intro gb144 hg w21 hbox hb; have BK144 := Aside0.mk (hbox); have GW144 := sG hg HB; have GE144 := sG hg HB; replace HB := sB HB hb; clear hb hbox hg; have z22 := bk8 BK144) | ((with_reducible refine gate_callee (f := 19) rfl ?_); refine goesK (some 9) Try.func19 #[.agg #[.int .i64 a0_0, .int .i64 a0_1, .int .i64 a0_2, .int .i64 a0_3, .int .i64 a0_4, .int .i64 a0_5, .slice A0_6 l0_6.length c0_6, .slice A0_7 l0_7.length c0_7]] ?_; (with_reducible refine (config_numbers.calls a0_0 a0_1 a0_2 a0_3 a0_4 a0_5 _ _ l0_6 _ _ l0_7 true _ ?side1 ?side2 ?side3 ?side4 A2.out).mono ?_); (case side1 => exact sC HR0_6 HB); (case side2 => exact HC0_6.out); (case side3 => exact sC HR0_7 HB); (case side4 => exact HC0_7.out); rintro e w23 ⟨rfl, hb⟩; refine ⟨_, rfl, ?_⟩; replace BK144 := sK BK144 hb; replace HB := sB HB hb; (try clear hb); have z24 := bk8 BK144) | ((with_reducible refine gate_callee (f := 20) rfl ?_); refine goesK (some 14) Try.func20 #[.slice A0_6 l0_6.length c0_6] ?_; (with_reducible refine (blocks_Check.calls k _ _ l0_6 t146 t147 _ ?side1 ?side2 A4.out).mono ?_); (case side1 => exact sC HR0_6 HB); (case side2 => exact HC0_6.out); rintro e w25 ⟨rfl, hb⟩; refine ⟨_, rfl, ?_⟩; replace BK144 := sK BK144 hb; replace HB := sB HB hb; (try clear hb); have z26 := bk8 BK144) | ((with_reducible refine gate_callee (f := 21) rfl ?_); refine goesK (some 25) Try.func21 #[.int .i64 (l0_7.length : Int), .int .i64 1, .int .i64 32] ?_; (with_reducible refine (config_in.calls (l0_7.length : Int) 1 32 false _ A6.out).mono ?_); rintro e w' ⟨rfl, ⟨nd, rfl⟩⟩; refine ⟨_, rfl, ?_⟩))
  go_ret2
  exact sEnd HB
 subst c7
 rw [if_pos rfl] at H
 have H' := Aside0.mk H
 clear H
 go_enter Try.func8, Try.ntmps8
 go_wp2_with (first | ((with_reducible refine gate_dst (N := 1) rfl ?_); refine boxK (N := 1) (#[.int .i64 a0_0, .int .i64 a0_1, .int .i64 a0_2, .int .i64 a0_3, .int .i64 a0_4, .int .i64 a0_5, .slice A0_6 l0_6.length c0_6, .slice A0_7 l0_7.length c0_7]) 25 ?_; intro gb144 hg w8 hbox hb; have BK144 := Aside0.mk (hbox); have GW144 := sG hg HB; have GE144 := sG hg HB; replace HB := sB HB hb; clear hb hbox hg; have z9 := bk8 BK144) | ((with_reducible refine gate_callee (f := 19) rfl ?_); refine goesK (some 9) Try.func19 #[.agg #[.int .i64 a0_0, .int .i64 a0_1, .int .i64 a0_2, .int .i64 a0_3, .int .i64 a0_4, .int .i64 a0_5, .slice A0_6 l0_6.length c0_6, .slice A0_7 l0_7.length c0_7]] ?_; (with_reducible refine (config_numbers.calls a0_0 a0_1 a0_2 a0_3 a0_4 a0_5 _ _ l0_6 _ _ l0_7 true _ ?side1 ?side2 ?side3 ?side4 A2.out).mono ?_); (case side1 => exact sC HR0_6 HB); (case side2 => exact HC0_6.out); (case side3 => exact sC HR0_7 HB); (case side4 => exact HC0_7.out); rintro e w10 ⟨rfl, hb⟩; refine ⟨_, rfl, ?_⟩; replace BK144 := sK BK144 hb; replace HB := sB HB hb; (try clear hb); have z11 := bk8 BK144) | ((with_reducible refine gate_callee (f := 20) rfl ?_); refine goesK (some 14) Try.func20 #[.slice A0_6 l0_6.length c0_6] ?_; (with_reducible refine (blocks_Check.calls k _ _ l0_6 t146 t147 _ ?side1 ?side2 A4.out).mono ?_); (case side1 => exact sC HR0_6 HB); (case side2 => exact HC0_6.out); rintro e w12 ⟨rfl, hb⟩; refine ⟨_, rfl, ?_⟩; replace BK144 := sK BK144 hb; replace HB := sB HB hb; (try clear hb); have z13 := bk8 BK144) | ((with_reducible refine gate_callee (f := 21) rfl ?_); refine goesK (some 25) Try.func21 #[.int .i64 (l0_7.length : Int), .int .i64 1, .int .i64 32] ?_; (with_reducible refine (config_in.calls (l0_7.length : Int) 1 32 true _ A6.out).mono ?_); rintro e w' ⟨rfl, ⟨nd, rfl⟩⟩; refine ⟨_, rfl, ?_⟩))
 go_loopg [30] k (fun kq v30 w' => ∃ (x30_1 : Int), v30 = .int .i64 x30_1 ∧ Aside0 (config_Check.l0 kq (l0_7.length : Int) x30_1 a0_0 a0_1 a0_2 a0_3 a0_4 a0_5 l0_6 l0_7 = some (r1, r2)) ∧ Aside0 (kq ≤ k) ∧ Aside0 (w'.heap[gb144]? = some (.cells #[.int .i64 a0_0, .int .i64 a0_1, .int .i64 a0_2, .int .i64 a0_3, .int .i64 a0_4, .int .i64 a0_5, (.slice A0_6 l0_6.length c0_6), (.slice A0_7 l0_7.length c0_7)] 25 (0, 0))) ∧ Aside0 (Below w.heap.size w w'))
 case atStart => exact ⟨(0), (by first | rfl | (simp; done) | (simp [*]; done)), H', ⟨Nat.le_refl _⟩, (sK0 BK144), (sB0 HB)⟩
 clear H'
 (try clear c3); (try clear c5); (try clear c5b0); (try clear c5b1); (try clear c7)
 obtain ⟨x30_1, rfl, HA, HK1, BK144, HB⟩ := hrel
 cases gk with
 | zero => exact absurd HA.out (by simp [config_Check.l0])
 | succ k1 =>
  have H := HA.out
  clear HA
  simp only [config_Check.l0] at H
  by_cases c14 : x30_1 < (l0_7.length : Int)
  ·rw [if_pos c14] at H
   have c14b0 : decide (x30_1 < (l0_7.length : Int)) = true := decide_eq_true c14
   clear c14
   replace H := Option.bind_eq_some_iff.mp H
   obtain ⟨t149, A150, H⟩ := H
   replace H : (if t149 = 0 then (config_Check.l0 k1 (l0_7.length : Int) (wrap64 (x30_1 + 1)) a0_0 a0_1 a0_2 a0_3 a0_4 a0_5 l0_6 l0_7) else (some (t149, wrap64 (100 + x30_1)))) = some (r1, r2) := H
   have A15 := Aside0.mk A150
   clear A150
   by_cases c16 : t149 = 0
   ·rw [if_pos c16] at H
    have c16b0 : (t149 == 0) = true := beq_iff_eq.mpr c16
    have c16b1 : (t149 != 0) = false := bne_eq_false_iff_eq.mpr c16
    clear c16
    have H' := Aside0.mk H
    clear H
    have z17 := bk8 BK144
    go_wp2_with (first | ((with_reducible refine gate_callee (f := 22) rfl ?_); refine goesK (some 35) Try.func22 #[.agg #[.int .i64 a0_0, .int .i64 a0_1, .int .i64 a0_2, .int .i64 a0_3, .int .i64 a0_4, .int .i64 a0_5, .slice A0_6 l0_6.length c0_6, .slice A0_7 l0_7.length c0_7], .int .i64 x30_1] ?_; (with_reducible refine (config_station.calls k1 a0_0 a0_1 a0_2 a0_3 a0_4 a0_5 _ _ l0_6 _ _ l0_7 x30_1 t149 _ ?side1 ?side2 ?side3 ?side4 A15.out).mono ?_); (case side1 => exact sC HR0_6 HB); (case side2 => exact HC0_6.out); (case side3 => exact sC HR0_7 HB); (case side4 => exact HC0_7.out); rintro e w18 ⟨rfl, hb⟩; refine ⟨_, rfl, ?_⟩; replace BK144 := sK BK144 hb; replace HB := sB HB hb; (try clear hb)))
    go_roundg k1
    case measure => have := HK1.out; omega
    case rel => exact ⟨(wrap64 (x30_1 + 1)), (by first | rfl | (simp; done) | (simp [*]; done)), H', ⟨by have := HK1.out; omega⟩, (sK0 BK144), (sB0 HB)⟩
   ·rw [if_neg c16] at H
    have c16b0 : (t149 == 0) = false := beq_eq_false_iff_ne.mpr c16
    have c16b1 : (t149 != 0) = true := bne_iff_ne.mpr c16
    simp only [Option.some.injEq, Prod.mk.injEq] at H
    obtain ⟨rfl, rfl⟩ := H
    have z19 := bk8 BK144
    go_wp2_with (first | ((with_reducible refine gate_callee (f := 22) rfl ?_); refine goesK (some 35) Try.func22 #[.agg #[.int .i64 a0_0, .int .i64 a0_1, .int .i64 a0_2, .int .i64 a0_3, .int .i64 a0_4, .int .i64 a0_5, .slice A0_6 l0_6.length c0_6, .slice A0_7 l0_7.length c0_7], .int .i64 x30_1] ?_; (with_reducible refine (config_station.calls k1 a0_0 a0_1 a0_2 a0_3 a0_4 a0_5 _ _ l0_6 _ _ l0_7 x30_1 t149 _ ?side1 ?side2 ?side3 ?side4 A15.out).mono ?_); (case side1 => exact sC HR0_6 HB); (case side2 => exact HC0_6.out); (case side3 => exact sC HR0_7 HB); (case side4 => exact HC0_7.out); rintro e w20 ⟨rfl, hb⟩; refine ⟨_, rfl, ?_⟩; replace BK144 := sK BK144 hb; replace HB := sB HB hb; (try clear hb)))
    go_ret2
    exact sEnd HB
  ·rw [if_neg c14] at H
   have c14b0 : decide (x30_1 < (l0_7.length : Int)) = false := decide_eq_false c14
   clear c14
   simp only [Option.some.injEq, Prod.mk.injEq] at H
   obtain ⟨rfl, rfl⟩ := H
   go_wp2
   go_ret2
   exact sEnd HB

/-! ### config_Find: function 10 -/
def config_Find.f (a0_0 a0_1 a0_2 a0_3 a0_4 a0_5 : Int) (l0_6 : List (S63)) (l0_7 : List (S37)) (a1 : Int) : Option (Int × Int × Int × (List (S54)) × (List (S56)) × (List (S56)) × Bool) := (config_place.f a0_0 a0_1 a0_2 a0_3 a0_4 a0_5 l0_6 l0_7 a1).bind fun t152 => (if t152 < 0 then (some (0, 0, 0, ([] : List (S54)), ([] : List (S56)), ([] : List (S56)), false)) else (if 0 ≤ t152 then (if t152 < (l0_7.length : Int) then (some ((rd_T37 l0_7 t152).f0, (rd_T37 l0_7 t152).f1, (rd_T37 l0_7 t152).f2, (rd_T37 l0_7 t152).f3, (rd_T37 l0_7 t152).f4, (rd_T37 l0_7 t152).f5, true)) else (none)) else (none)))
set_option maxHeartbeats 8000000 in
set_option maxRecDepth 100000 in
theorem config_Find.calls (a0_0 a0_1 a0_2 a0_3 a0_4 a0_5 : Int) (A0_6 : Option Addr) (c0_6 : Nat) (l0_6 : List (S63)) (P0_7_ : Nat → Prop) (A0_7 : Option Addr) (c0_7 : Nat) (l0_7 : List (S37)) (a1 r1 r2 r3 : Int) (r4 : List (S54)) (r5 : List (S56)) (r6 : List (S56)) (r7 : Bool) (w : World) (hr0_6 : Kd.C k63 w A0_6 l0_6.length l0_6) (hc0_6 : l0_6.length ≤ c0_6) (hs0_7 : Kd.V k37 37 w w.heap.size (fun k_ => P0_7_ k_) (.slice A0_7 l0_7.length c0_7) l0_7) (h : config_Find.f a0_0 a0_1 a0_2 a0_3 a0_4 a0_5 l0_6 l0_7 a1 = some (r1, r2, r3, r4, r5, r6, r7)) :
  Calls Try.prog 10 #[.agg #[.int .i64 a0_0, .int .i64 a0_1, .int .i64 a0_2, .int .i64 a0_3, .int .i64 a0_4, .int .i64 a0_5, .slice A0_6 l0_6.length c0_6, .slice A0_7 l0_7.length c0_7], .int .i64 a1] w fun e w' => ∃ v3_ v4_ v5_ : Value, e = .returned (.tuple #[.agg #[.int .i64 r1, .int .i64 r2, .int .i64 r3, v3_, v4_, v5_], .bool r7]) ∧ Kd.V k54 54 w' w.heap.size (fun k_ => (P0_7_ k_ ∨ w.heap.size ≤ k_)) v3_ r4 ∧ Kd.V k56 56 w' w.heap.size (fun k_ => (P0_7_ k_ ∨ w.heap.size ≤ k_)) v4_ r5 ∧ Kd.V k56 56 w' w.heap.size (fun k_ => (P0_7_ k_ ∨ w.heap.size ≤ k_)) v5_ r6 ∧ Below w.heap.size w w' := by
 have hu25 := Try.underlying25
 have hu37 := Try.underlying37
 have HR0_6 := Aside0.mk hr0_6
 have HC0_6 := Aside0.mk hc0_6
 clear hr0_6 hc0_6
 have HO0_7 := Aside0.mk (show Kd.V k37 37 w w.heap.size (fun k_ => (P0_7_ k_ ∨ w.heap.size ≤ k_)) (.slice A0_7 l0_7.length c0_7) l0_7 from Kd.V_mono hs0_7 (fun k_ hk => .inl hk))
 have HB := Aside0.mk (Below.refl w.heap.size w)
 have H : ((config_place.f a0_0 a0_1 a0_2 a0_3 a0_4 a0_5 l0_6 l0_7 a1).bind fun t152 => (if t152 < 0 then (some (0, 0, 0, ([] : List (S54)), ([] : List (S56)), ([] : List (S56)), false)) else (if 0 ≤ t152 then (if t152 < (l0_7.length : Int) then (some ((rd_T37 l0_7 t152).f0, (rd_T37 l0_7 t152).f1, (rd_T37 l0_7 t152).f2, (rd_T37 l0_7 t152).f3, (rd_T37 l0_7 t152).f4, (rd_T37 l0_7 t152).f5, true)) else (none)) else (none)))) = some (r1, r2, r3, r4, r5, r6, r7) := h
 clear h
 replace H := Option.bind_eq_some_iff.mp H
 obtain ⟨t152, A30, H⟩ := H
 replace H : (if t152 < 0 then (some (0, 0, 0, ([] : List (S54)), ([] : List (S56)), ([] : List (S56)), false)) else (if 0 ≤ t152 then (if t152 < (l0_7.length : Int) then (some ((rd_T37 l0_7 t152).f0, (rd_T37 l0_7 t152).f1, (rd_T37 l0_7 t152).f2, (rd_T37 l0_7 t152).f3, (rd_T37 l0_7 t152).f4, (rd_T37 l0_7 t152).f5, true)) else (none)) else (none))) = some (r1, r2, r3, r4, r5, r6, r7) := H
 have A3 := Aside0.mk A30
 clear A30
 by_cases c4 : t152 < 0
 ·rw [if_pos c4] at H
  have c4b0 : decide (t152 < 0) = true := decide_eq_true c4
  clear c4
  simp only [Option.some.injEq, Prod.mk.injEq] at H
  obtain ⟨rfl, rfl, rfl, rfl, rfl, rfl, rfl⟩ := H
  go_enter Try.func10, Try.ntmps10
  go_wp2_with (first | ((with_reducible refine gate_dst (N := 2) rfl ?_); refine boxK (N := 2) (#[.int .i64 a0_0, .int .i64 a0_1, .int .i64 a0_2, .int .i64 a0_3, .int .i64 a0_4, .int .i64 a0_5, .slice A0_6 l0_6.length c0_6, .slice A0_7 l0_7.length c0_7]) 25 ?_; intro gb150 hg w5 hbox hb; replace HO0_7 := sVe HO0_7 gb150 hg hb; have BK150 := Aside0.mk (hbox); have GW150 := sG hg HB; have GE150 := sG hg HB; replace HB := sB HB hb; clear hb hbox hg) | ((with_reducible refine gate_dst (N := 4) rfl ?_); refine boxK (N := 4) (#[.int .i64 0, .int .i64 0, .int .i64 0, .slice none 0 0, .slice none 0 0, .slice none 0 0]) 37 ?_; intro gb151 hg w6 hbox hb; replace HO0_7 := sVe HO0_7 gb151 hg hb; have BK151 := Aside0.mk (hbox); have GW151 := sG hg HB; have GE151 := sG hg HB; replace HB := sB HB hb; have NB150_151 := sNl hg BK150; have NB151_150 := sNg hg BK150; replace BK150 := sK BK150 hb; clear hb hbox hg; have hnb7 := NB150_151.out; have hnc7 := NB151_150.out; have z8 := bk8 BK150) | ((with_reducible refine gate_callee (f := 26) rfl ?_); refine goesK (some 9) Try.func26 #[.agg #[.int .i64 a0_0, .int .i64 a0_1, .int .i64 a0_2, .int .i64 a0_3, .int .i64 a0_4, .int .i64 a0_5, .slice A0_6 l0_6.length c0_6, .slice A0_7 l0_7.length c0_7], .int .i64 a1] ?_; (with_reducible refine (config_place.calls a0_0 a0_1 a0_2 a0_3 a0_4 a0_5 _ _ l0_6 _ _ l0_7 a1 t152 _ ?side1 ?side2 ?side3 ?side4 A3.out).mono ?_); (case side1 => exact sC HR0_6 HB); (case side2 => exact HC0_6.out); (case side3 => repeat (first | exact (Kd.V_reads' HO0_7.out).2.2 | (with_reducible refine Kd.C_alloc ?_ _) | (with_reducible refine Kd.C_drewN ?_ _) | (with_reducible refine Kd.C_drew ?_))); (case side4 => exact (Kd.V_reads' HO0_7.out).2.1); rintro e w9 ⟨rfl, hb⟩; refine ⟨_, rfl, ?_⟩; replace HO0_7 := sV HO0_7 hb; replace BK150 := sK BK150 hb; replace BK151 := sK BK151 hb; replace HB := sB HB hb; (try clear hb); have z10 := bk6 BK151))
  refine bodyPost_ret (results_ct rfl _ _ gb151 37 #[.int .i64 0, .int .i64 0, .int .i64 0, .slice none 0 0, .slice none 0 0, .slice none 0 0] (0, 0) _ rfl (sKq BK151) Try.underlying37 rfl (by kernel_rfl)) rfl ?_
  exact ⟨_, _, _, by first | rfl | (simp [errW_none, errW_some] <;> rfl) | (simp [*, errW_none, errW_some] <;> rfl), Kd.V_nil _ _ _ _ _, Kd.V_nil _ _ _ _ _, Kd.V_nil _ _ _ _ _, by repeat (first | (with_reducible first | exact HB.out | apply below_alloc | apply pw_below_drewN | apply below_drew1 | refine below_set ?_ (Aside0.out (by assumption))) | exact HB.out)⟩
 rw [if_neg c4] at H
 have c4b0 : decide (t152 < 0) = false := decide_eq_false c4
 clear c4
 by_cases c11 : 0 ≤ t152
 case neg =>
  rw [if_neg c11] at H
  exact absurd H (by simp)
 rw [if_pos c11] at H
 have c11b0 : decide (0 ≤ t152) = true := decide_eq_true c11
 clear c11
 by_cases c12 : t152 < (l0_7.length : Int)
 case neg =>
  rw [if_neg c12] at H
  exact absurd H (by simp)
 rw [if_pos c12] at H
 have c12b0 : decide (t152 < (l0_7.length : Int)) = true := decide_eq_true c12
 clear c12
 simp only [Option.some.injEq, Prod.mk.injEq] at H
 obtain ⟨rfl, rfl, rfl, rfl, rfl, rfl, rfl⟩ := H
 go_enter Try.func10, Try.ntmps10
 go_wp2_with (first | ((with_reducible refine gate_dst (N := 2) rfl ?_); refine boxK (N := 2) (#[.int .i64 a0_0, .int .i64 a0_1, .int .i64 a0_2, .int .i64 a0_3, .int .i64 a0_4, .int .i64 a0_5, .slice A0_6 l0_6.length c0_6, .slice A0_7 l0_7.length c0_7]) 25 ?_; intro gb150 hg w13 hbox hb; replace HO0_7 := sVe HO0_7 gb150 hg hb; have BK150 := Aside0.mk (hbox); have GW150 := sG hg HB; have GE150 := sG hg HB; replace HB := sB HB hb; clear hb hbox hg) | ((with_reducible refine gate_dst (N := 4) rfl ?_); refine boxK (N := 4) (#[.int .i64 0, .int .i64 0, .int .i64 0, .slice none 0 0, .slice none 0 0, .slice none 0 0]) 37 ?_; intro gb151 hg w14 hbox hb; replace HO0_7 := sVe HO0_7 gb151 hg hb; have BK151 := Aside0.mk (hbox); have GW151 := sG hg HB; have GE151 := sG hg HB; replace HB := sB HB hb; have NB150_151 := sNl hg BK150; have NB151_150 := sNg hg BK150; replace BK150 := sK BK150 hb; clear hb hbox hg; have hnb15 := NB150_151.out; have hnc15 := NB151_150.out; have z16 := bk8 BK150) | ((with_reducible refine gate_callee (f := 26) rfl ?_); refine goesK (some 9) Try.func26 #[.agg #[.int .i64 a0_0, .int .i64 a0_1, .int .i64 a0_2, .int .i64 a0_3, .int .i64 a0_4, .int .i64 a0_5, .slice A0_6 l0_6.length c0_6, .slice A0_7 l0_7.length c0_7], .int .i64 a1] ?_; (with_reducible refine (config_place.calls a0_0 a0_1 a0_2 a0_3 a0_4 a0_5 _ _ l0_6 _ _ l0_7 a1 t152 _ ?side1 ?side2 ?side3 ?side4 A3.out).mono ?_); (case side1 => exact sC HR0_6 HB); (case side2 => exact HC0_6.out); (case side3 => repeat (first | exact (Kd.V_reads' HO0_7.out).2.2 | (with_reducible refine Kd.C_alloc ?_ _) | (with_reducible refine Kd.C_drewN ?_ _) | (with_reducible refine Kd.C_drew ?_))); (case side4 => exact (Kd.V_reads' HO0_7.out).2.1); rintro e w17 ⟨rfl, hb⟩; refine ⟨_, rfl, ?_⟩; replace HO0_7 := sV HO0_7 hb; replace BK150 := sK BK150 hb; replace BK151 := sK BK151 hb; replace HB := sB HB hb; (try clear hb); have z18 := bk8 BK150; have p153 : 0 ≤ (t152 : Int) := of_decide_eq_true (by first | (with_reducible assumption) | assumption); have q153 : t152 < (l0_7.length : Int) := of_decide_eq_true (by first | (with_reducible assumption) | assumption); obtain ⟨ad153, A153_3, c153_3, A153_4, c153_4, A153_5, c153_5, e153, hx153_0, hx153_1, hx153_2, hx153_3, hx153_4, hx153_5, hl153_3, hi153_3, hl153_4, hi153_4, hl153_5, hi153_5⟩ := at_T37 (Kd.V_reads' HO0_7.out).2.2 t152 p153 q153; cases e153; obtain ⟨ce153, hce153, hMe153, hcc153⟩ := Kd.V_get HO0_7.out z37 t152 p153 (by first | exact q153 | exact of_decide_eq_true (by first | (with_reducible assumption) | assumption) | (have e_ := (Kd.V_reads' HO0_7.out).1; omega)); obtain ⟨ua153_3, uc153_3, ua153_4, uc153_4, ua153_5, uc153_5, rfl, ul153_3, ge153_3, ul153_4, ge153_4, ul153_5, ge153_5⟩ := k37_openF hMe153; have hv153_3 := hcc153 3 _ rfl; rw [add_field _ _ 3 (by omega)] at hv153_3; replace hv153_3 := Option.some.inj (hv153_3.symm.trans hx153_3); injection hv153_3 with hva_ hvn_ hvc_; rw [hva_] at ge153_3; rw [hvc_] at ul153_3; have HL153_3 := Aside0.mk (show Kd.V k54 54 _ w.heap.size _ _ ((rd_T37 l0_7 t152).f3) from Kd.V_mk ul153_3 ge153_3); clear hva_ hvn_ hvc_ ge153_3 ul153_3; have hv153_4 := hcc153 4 _ rfl; rw [add_field _ _ 4 (by omega)] at hv153_4; replace hv153_4 := Option.some.inj (hv153_4.symm.trans hx153_4); injection hv153_4 with hva_ hvn_ hvc_; rw [hva_] at ge153_4; rw [hvc_] at ul153_4; have HL153_4 := Aside0.mk (show Kd.V k56 56 _ w.heap.size _ _ ((rd_T37 l0_7 t152).f4) from Kd.V_mk ul153_4 ge153_4); clear hva_ hvn_ hvc_ ge153_4 ul153_4; have hv153_5 := hcc153 5 _ rfl; rw [add_field _ _ 5 (by omega)] at hv153_5; replace hv153_5 := Option.some.inj (hv153_5.symm.trans hx153_5); injection hv153_5 with hva_ hvn_ hvc_; rw [hva_] at ge153_5; rw [hvc_] at ul153_5; have HL153_5 := Aside0.mk (show Kd.V k56 56 _ w.heap.size _ _ ((rd_T37 l0_7 t152).f5) from Kd.V_mk ul153_5 ge153_5); clear hva_ hvn_ hvc_ ge153_5 ul153_5; clear hcc153 hce153; have HR153_3 := Aside0.mk hi153_3; have HC153_3 := Aside0.mk hl153_3; clear hi153_3 hl153_3; have HR153_4 := Aside0.mk hi153_4; have HC153_4 := Aside0.mk hl153_4; clear hi153_4 hl153_4; have HR153_5 := Aside0.mk hi153_5; have HC153_5 := Aside0.mk hl153_5; clear hi153_5 hl153_5; replace p153 := eq_true p153; replace q153 := eq_true q153; have z19 := bk6 BK151))
 refine bodyPost_ret (results_ct rfl _ _ gb151 37 #[.int .i64 ((rd_T37 l0_7 t152).f0), .int .i64 ((rd_T37 l0_7 t152).f1), .int .i64 ((rd_T37 l0_7 t152).f2), .slice A153_3 ((rd_T37 l0_7 t152).f3).length c153_3, .slice A153_4 ((rd_T37 l0_7 t152).f4).length c153_4, .slice A153_5 ((rd_T37 l0_7 t152).f5).length c153_5] (0, 0) _ rfl (sKq BK151) Try.underlying37 rfl (by kernel_rfl)) rfl ?_
 exact ⟨_, _, _, by first | rfl | (simp [errW_none, errW_some] <;> rfl) | (simp [*, errW_none, errW_some] <;> rfl), by (with_reducible repeat (first | apply Kd.V_alloc | apply Kd.V_drewN | apply Kd.V_drew)); exact Kd.V_mono (Kd.V_far (p := ⟨gb151, 5, none⟩) (Kd.V_far (p := ⟨gb151, 4, none⟩) (Kd.V_far (p := ⟨gb151, 3, none⟩) (Kd.V_far (p := ⟨gb151, 2, none⟩) (Kd.V_far (p := ⟨gb151, 1, none⟩) (Kd.V_far (p := ⟨gb151, 0, none⟩) (Kd.V_mono HL153_3.out (fun k_ hk => (⟨hk, hk.2⟩ : _ ∧ k_ ≠ gb151))) (fun _ hk => hk.2) (.int .i64 ((rd_T37 l0_7 t152).f0))) (fun _ hk => hk.2) (.int .i64 ((rd_T37 l0_7 t152).f1))) (fun _ hk => hk.2) (.int .i64 ((rd_T37 l0_7 t152).f2))) (fun _ hk => hk.2) (.slice A153_3 ((rd_T37 l0_7 t152).f3).length c153_3)) (fun _ hk => hk.2) (.slice A153_4 ((rd_T37 l0_7 t152).f4).length c153_4)) (fun _ hk => hk.2) (.slice A153_5 ((rd_T37 l0_7 t152).f5).length c153_5)) (fun _ hk => hk.1.1.1), by (with_reducible repeat (first | apply Kd.V_alloc | apply Kd.V_drewN | apply Kd.V_drew)); exact Kd.V_mono (Kd.V_far (p := ⟨gb151, 5, none⟩) (Kd.V_far (p := ⟨gb151, 4, none⟩) (Kd.V_far (p := ⟨gb151, 3, none⟩) (Kd.V_far (p := ⟨gb151, 2, none⟩) (Kd.V_far (p := ⟨gb151, 1, none⟩) (Kd.V_far (p := ⟨gb151, 0, none⟩) (Kd.V_mono HL153_4.out (fun k_ hk => (⟨hk, hk.2⟩ : _ ∧ k_ ≠ gb151))) (fun _ hk => hk.2) (.int .i64 ((rd_T37 l0_7 t152).f0))) (fun _ hk => hk.2) (.int .i64 ((rd_T37 l0_7 t152).f1))) (fun _ hk => hk.2) (.int .i64 ((rd_T37 l0_7 t152).f2))) (fun _ hk => hk.2) (.slice A153_3 ((rd_T37 l0_7 t152).f3).length c153_3)) (fun _ hk => hk.2) (.slice A153_4 ((rd_T37 l0_7 t152).f4).length c153_4)) (fun _ hk => hk.2) (.slice A153_5 ((rd_T37 l0_7 t152).f5).length c153_5)) (fun _ hk => hk.1.1.1), by (with_reducible repeat (first | apply Kd.V_alloc | apply Kd.V_drewN | apply Kd.V_drew)); exact Kd.V_mono (Kd.V_far (p := ⟨gb151, 5, none⟩) (Kd.V_far (p := ⟨gb151, 4, none⟩) (Kd.V_far (p := ⟨gb151, 3, none⟩) (Kd.V_far (p := ⟨gb151, 2, none⟩) (Kd.V_far (p := ⟨gb151, 1, none⟩) (Kd.V_far (p := ⟨gb151, 0, none⟩) (Kd.V_mono HL153_5.out (fun k_ hk => (⟨hk, hk.2⟩ : _ ∧ k_ ≠ gb151))) (fun _ hk => hk.2) (.int .i64 ((rd_T37 l0_7 t152).f0))) (fun _ hk => hk.2) (.int .i64 ((rd_T37 l0_7 t152).f1))) (fun _ hk => hk.2) (.int .i64 ((rd_T37 l0_7 t152).f2))) (fun _ hk => hk.2) (.slice A153_3 ((rd_T37 l0_7 t152).f3).length c153_3)) (fun _ hk => hk.2) (.slice A153_4 ((rd_T37 l0_7 t152).f4).length c153_4)) (fun _ hk => hk.2) (.slice A153_5 ((rd_T37 l0_7 t152).f5).length c153_5)) (fun _ hk => hk.1.1.1), by repeat (first | (with_reducible first | exact HB.out | apply below_alloc | apply pw_below_drewN | apply below_drew1 | refine below_set ?_ (Aside0.out (by assumption))) | exact HB.out)⟩

end Go.Proofs.Ytedmikeamgebjaa.R
