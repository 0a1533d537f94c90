-- Written by a program out of the translation; not trusted: Lean checks it.
import Derived.Test.YtedmikeamgebjaaK
import Derived.Test.YtedmikeamgebjaaK2
import Derived.Test.YtedmikeamgebjaaRx0
import Derived.Test.YtedmikeamgebjaaRx3
namespace Go.Proofs.Ytedmikeamgebjaa.R
open Go.Proofs.YtedmikeamgebjaaW.PrintK Go.RowKit Go.Proofs.YtedmikeamgebjaaW.PrintWords Go.Proofs.YtedmikeamgebjaaW.PrintLast Go.Proofs.YtedmikeamgebjaaW.PrintMore
attribute [local go_sem] max2_int min2_int max_two min_two max_three min_three max_four min_four   -- for this text's walks alone
set_option linter.unusedVariables false
set_option linter.unusedSimpArgs false

/-! ### image_lay: function 51 -/
def image_lay.l0 : Nat → Int → List (S56) → List (S63) → Bool → List (S56) → Int → Int → Option (Int × Int)
 | 0, _, _, _, _, _, _, _ => none
 | k + 1, x0, x1, x2, x3, x15, x16, x17 => if x17 < x16 then (if 0 ≤ x17 then (if x17 < (x15.length : Int) then ((image_spot.f x1 x17 x2).bind fun bt119 => (if bt119.2.2.2.2 = 0 then ((image_mask.f ((rd_T56 x15 x17).f1) bt119.2.2.1).bind fun t125 => (if x3 = true then (if (Go.bits .and .u64 x0 t125) = 0 then (image_lay.l0 k (Go.bits .or .u64 x0 t125) x1 x2 x3 x15 x16 (wrap64 (x17 + 1))) else (some (15, x17))) else (image_lay.l0 k (Go.bits .or .u64 x0 t125) x1 x2 x3 x15 x16 (wrap64 (x17 + 1))))) else (some (bt119.2.2.2.2, x17)))) else (none)) else (none)) else (some (0, 0))
def image_lay.f (k : Nat) (a0 : Int) (l1 : List (S56)) (l2 : List (S63)) (a3 : Bool) : Option (Int × Int) := image_lay.l0 k a0 l1 l2 a3 l1 (l1.length : Int) 0
theorem image_lay.mono_l : ∀ k, (∀ y0 y1 y2 y3 y4 y5 y6, LeO (image_lay.l0 k y0 y1 y2 y3 y4 y5 y6) (image_lay.l0 (k + 1) y0 y1 y2 y3 y4 y5 y6))
 | 0 => fun _ _ _ _ _ _ _ r h => by simp [image_lay.l0] at h
 | k + 1 => by
  have ih0 := image_lay.mono_l k
  ·intro y0 y1 y2 y3 y4 y5 y6
   unfold image_lay.l0
   repeat' first
   | (with_reducible exact ih0 _ _ _ _ _ _ _)
   | (with_reducible exact LeO.refl _)
   | (with_reducible exact LeO.none _)
   | (with_reducible refine LeO.ite ?_ ?_)
   | (with_reducible refine LeO.bind ?_ (fun _ => ?_))
   | exact ih0 _ _ _ _ _ _ _
   | exact LeO.none _
   | refine LeO.ite ?_ ?_
   | refine LeO.bind ?_ (fun _ => ?_)
theorem image_lay.mono : ∀ a0 a1 a2 a3 k, LeO (image_lay.f k a0 a1 a2 a3) (image_lay.f (k + 1) a0 a1 a2 a3) := by
 intro a0 a1 a2 a3 k
 have ih0 := image_lay.mono_l k
 unfold image_lay.f
 repeat' first
   | (with_reducible exact ih0 _ _ _ _ _ _ _)
   | (with_reducible exact LeO.refl _)
   | (with_reducible exact LeO.none _)
   | (with_reducible refine LeO.ite ?_ ?_)
   | (with_reducible refine LeO.bind ?_ (fun _ => ?_))
   | exact ih0 _ _ _ _ _ _ _
   | exact LeO.none _
   | refine LeO.ite ?_ ?_
   | refine LeO.bind ?_ (fun _ => ?_)
set_option maxHeartbeats 8000000 in
set_option maxRecDepth 100000 in
theorem image_lay.calls (k : Nat) (a0 : Int) (A1 : Option Addr) (c1 : Nat) (l1 : List (S56)) (A2 : Option Addr) (c2 : Nat) (l2 : List (S63)) (a3 : Bool) (r1 r2 : Int) (w : World) (hr1 : Kd.C k56 w A1 l1.length l1) (hc1 : l1.length ≤ c1) (hr2 : Kd.C k63 w A2 l2.length l2) (hc2 : l2.length ≤ c2) (h : image_lay.f k a0 l1 l2 a3 = some (r1, r2)) :
  Calls Try.prog 51 #[.int .u64 a0, .slice A1 l1.length c1, .slice A2 l2.length c2, .bool a3] w fun e w' => e = .returned (.tuple #[.int .i64 r1, .int .i64 r2]) ∧ Below w.heap.size w w' := by
 have hu56 := Try.underlying56
 have hu63 := Try.underlying63
 have HR1 := Aside0.mk hr1
 have HC1 := Aside0.mk hc1
 clear hr1 hc1
 have HR2 := Aside0.mk hr2
 have HC2 := Aside0.mk hc2
 clear hr2 hc2
 have HB := Aside0.mk (Below.refl w.heap.size w)
 have H : (image_lay.l0 k a0 l1 l2 a3 l1 (l1.length : Int) 0) = some (r1, r2) := h
 clear h
 have H' := Aside0.mk H
 clear H
 go_enter Try.func51, Try.ntmps51
 go_wp2
 go_loopg [0, 17] k (fun kq v0 v17 w' => ∃ (x0_1 : Int) (x17_1 : Int), v0 = .int .u64 x0_1 ∧ v17 = .int .i64 x17_1 ∧ Aside0 (image_lay.l0 kq x0_1 l1 l2 a3 l1 (l1.length : Int) x17_1 = some (r1, r2)) ∧ Aside0 (kq ≤ k) ∧ Aside0 (Below w.heap.size w w'))
 case atStart => exact ⟨(a0), (0), (by first | rfl | (simp; done) | (simp [*]; done)), (by first | rfl | (simp; done) | (simp [*]; done)), H', ⟨Nat.le_refl _⟩, (sB0 HB)⟩
 clear H'
 (try clear c1); (try clear c2)
 obtain ⟨x0_1, x17_1, rfl, rfl, HA, HK1, HB⟩ := hrel
 cases gk with
 | zero => exact absurd HA.out (by simp [image_lay.l0])
 | succ k1 =>
  have H := HA.out
  clear HA
  simp only [image_lay.l0] at H
  by_cases c5 : x17_1 < (l1.length : Int)
  ·rw [if_pos c5] at H
   have c5b0 : decide (x17_1 < (l1.length : Int)) = true := decide_eq_true c5
   clear c5
   by_cases c6 : 0 ≤ x17_1
   ·rw [if_pos c6] at H
    have c6b0 : decide (0 ≤ x17_1) = true := decide_eq_true c6
    clear c6
    by_cases c7 : x17_1 < (l1.length : Int)
    ·rw [if_pos c7] at H
     have c7b0 : decide (x17_1 < (l1.length : Int)) = true := decide_eq_true c7
     clear c7
     replace H := Option.bind_eq_some_iff.mp H
     obtain ⟨⟨t119, t120, t121, t122, t123⟩, A80, H⟩ := H
     replace H : (if t123 = 0 then ((image_mask.f ((rd_T56 l1 x17_1).f1) t121).bind fun t125 => (if a3 = true then (if (Go.bits .and .u64 x0_1 t125) = 0 then (image_lay.l0 k1 (Go.bits .or .u64 x0_1 t125) l1 l2 a3 l1 (l1.length : Int) (wrap64 (x17_1 + 1))) else (some (15, x17_1))) else (image_lay.l0 k1 (Go.bits .or .u64 x0_1 t125) l1 l2 a3 l1 (l1.length : Int) (wrap64 (x17_1 + 1))))) else (some (t123, x17_1))) = some (r1, r2) := H
     have A8 := Aside0.mk A80
     clear A80
     by_cases c9 : t123 = 0
     ·rw [if_pos c9] at H
      have c9b0 : (t123 == 0) = true := beq_iff_eq.mpr c9
      have c9b1 : (t123 != 0) = false := bne_eq_false_iff_eq.mpr c9
      clear c9
      replace H := Option.bind_eq_some_iff.mp H
      obtain ⟨t125, A100, H⟩ := H
      replace H : (if a3 = true then (if (Go.bits .and .u64 x0_1 t125) = 0 then (image_lay.l0 k1 (Go.bits .or .u64 x0_1 t125) l1 l2 a3 l1 (l1.length : Int) (wrap64 (x17_1 + 1))) else (some (15, x17_1))) else (image_lay.l0 k1 (Go.bits .or .u64 x0_1 t125) l1 l2 a3 l1 (l1.length : Int) (wrap64 (x17_1 + 1)))) = some (r1, r2) := H
      have A10 := Aside0.mk A100
      clear A100
      by_cases c11 : a3 = true
      ·subst c11
       rw [if_pos rfl] at H
       by_cases c12 : (Go.bits .and .u64 x0_1 t125) = 0
       ·rw [if_pos c12] at H
        have c12b0 : ((Go.bits .and .u64 x0_1 t125) == 0) = true := beq_iff_eq.mpr c12
        have c12b1 : ((Go.bits .and .u64 x0_1 t125) != 0) = false := bne_eq_false_iff_eq.mpr c12
        clear c12
        have H' := Aside0.mk H
        clear H
        have p117 : 0 ≤ (x17_1 : Int) := of_decide_eq_true (by first | (with_reducible assumption) | assumption)
        have q117 : x17_1 < (l1.length : Int) := of_decide_eq_true (by first | (with_reducible assumption) | assumption)
        obtain ⟨ad117, e117, hx117_0, hx117_1⟩ := at_T56 HR1.out x17_1 p117 q117
        cases e117
        replace hx117_0 := (HB.out.cell (World.block_lt_of_cell? w _ hx117_0)).trans hx117_0
        replace hx117_1 := (HB.out.cell (World.block_lt_of_cell? w _ hx117_1)).trans hx117_1
        replace p117 := eq_true p117
        replace q117 := eq_true q117
        go_wp2_with (first | ((with_reducible refine gate_dst (N := 11) rfl ?_); refine boxK (N := 11) (#[.int .i64 0, .int .i64 0]) 56 ?_; intro gb118 hg w13 hbox hb; have BK118 := Aside0.mk (hbox); have GW118 := sG hg HB; have GE118 := sG hg HB; replace HB := sB HB hb; clear hb hbox hg; have z14 := bk2 BK118) | ((with_reducible refine gate_callee (f := 59) rfl ?_); refine goesK (some 26) Try.func59 #[.slice (some ad117) l1.length c1, .int .i64 x17_1, .slice A2 l2.length c2] ?_; (with_reducible refine (image_spot.calls _ _ l1 x17_1 _ _ l2 t119 t120 t121 t122 t123 _ ?side1 ?side2 ?side3 ?side4 A8.out).mono ?_); (case side1 => exact sCb HR1 HB); (case side2 => exact HC1.out); (case side3 => exact sCb HR2 HB); (case side4 => exact HC2.out); rintro e w15 ⟨rfl, hb⟩; refine ⟨_, rfl, ?_⟩; replace BK118 := sKp (.cells #[.int .i64 ((rd_T56 l1 x17_1).f0), .int .i64 ((rd_T56 l1 x17_1).f1)] 56 (0, 0)) BK118 hb; replace HB := sB HB hb; (try clear hb)) | ((with_reducible refine gate_dst (N := 12) rfl ?_); refine boxK (N := 12) (#[.int .i64 0, .int .i64 0, .int .i64 0, .bool false]) 63 ?_; intro gb124 hg w16 hbox hb; have BK124 := Aside0.mk (hbox); have GW124 := sG hg HB; have GE124 := sG hg HB; replace HB := sB HB hb; have NB118_124 := sNl hg BK118; have NB124_118 := sNg hg BK118; replace BK118 := sK BK118 hb; clear hb hbox hg; have hnb17 := NB124_118.out; have hnc17 := NB118_124.out; have z18 := bk4 BK124; have z19 := bk2 BK118) | ((with_reducible refine gate_callee (f := 52) rfl ?_); refine goesK (some 37) Try.func52 #[.int .i64 ((rd_T56 l1 x17_1).f1), .int .i64 t121] ?_; (with_reducible refine (image_mask.calls ((rd_T56 l1 x17_1).f1) t121 t125 _ A10.out).mono ?_); rintro e w' ⟨rfl, ⟨nd, rfl⟩⟩; refine ⟨_, rfl, ?_⟩))
        go_roundg k1
        case measure => have := HK1.out; omega
        case rel => exact ⟨(Go.bits .or .u64 x0_1 t125), (wrap64 (x17_1 + 1)), (by first | rfl | (simp; done) | (simp [*]; done)), (by first | rfl | (simp; done) | (simp [*]; done)), H', ⟨by have := HK1.out; omega⟩, (sB0 HB)⟩
       ·rw [if_neg c12] at H
        have c12b0 : ((Go.bits .and .u64 x0_1 t125) == 0) = false := beq_eq_false_iff_ne.mpr c12
        have c12b1 : ((Go.bits .and .u64 x0_1 t125) != 0) = true := bne_iff_ne.mpr c12
        simp only [Option.some.injEq, Prod.mk.injEq] at H
        obtain ⟨rfl, rfl⟩ := H
        have p117 : 0 ≤ (x17_1 : Int) := of_decide_eq_true (by first | (with_reducible assumption) | assumption)
        have q117 : x17_1 < (l1.length : Int) := of_decide_eq_true (by first | (with_reducible assumption) | assumption)
        obtain ⟨ad117, e117, hx117_0, hx117_1⟩ := at_T56 HR1.out x17_1 p117 q117
        cases e117
        replace hx117_0 := (HB.out.cell (World.block_lt_of_cell? w _ hx117_0)).trans hx117_0
        replace hx117_1 := (HB.out.cell (World.block_lt_of_cell? w _ hx117_1)).trans hx117_1
        replace p117 := eq_true p117
        replace q117 := eq_true q117
        go_wp2_with (first | ((with_reducible refine gate_dst (N := 11) rfl ?_); refine boxK (N := 11) (#[.int .i64 0, .int .i64 0]) 56 ?_; intro gb118 hg w20 hbox hb; have BK118 := Aside0.mk (hbox); have GW118 := sG hg HB; have GE118 := sG hg HB; replace HB := sB HB hb; clear hb hbox hg; have z21 := bk2 BK118) | ((with_reducible refine gate_callee (f := 59) rfl ?_); refine goesK (some 26) Try.func59 #[.slice (some ad117) l1.length c1, .int .i64 x17_1, .slice A2 l2.length c2] ?_; (with_reducible refine (image_spot.calls _ _ l1 x17_1 _ _ l2 t119 t120 t121 t122 t123 _ ?side1 ?side2 ?side3 ?side4 A8.out).mono ?_); (case side1 => exact sCb HR1 HB); (case side2 => exact HC1.out); (case side3 => exact sCb HR2 HB); (case side4 => exact HC2.out); rintro e w22 ⟨rfl, hb⟩; refine ⟨_, rfl, ?_⟩; replace BK118 := sKp (.cells #[.int .i64 ((rd_T56 l1 x17_1).f0), .int .i64 ((rd_T56 l1 x17_1).f1)] 56 (0, 0)) BK118 hb; replace HB := sB HB hb; (try clear hb)) | ((with_reducible refine gate_dst (N := 12) rfl ?_); refine boxK (N := 12) (#[.int .i64 0, .int .i64 0, .int .i64 0, .bool false]) 63 ?_; intro gb124 hg w23 hbox hb; have BK124 := Aside0.mk (hbox); have GW124 := sG hg HB; have GE124 := sG hg HB; replace HB := sB HB hb; have NB118_124 := sNl hg BK118; have NB124_118 := sNg hg BK118; replace BK118 := sK BK118 hb; clear hb hbox hg; have hnb24 := NB124_118.out; have hnc24 := NB118_124.out; have z25 := bk4 BK124; have z26 := bk2 BK118) | ((with_reducible refine gate_callee (f := 52) rfl ?_); refine goesK (some 37) Try.func52 #[.int .i64 ((rd_T56 l1 x17_1).f1), .int .i64 t121] ?_; (with_reducible refine (image_mask.calls ((rd_T56 l1 x17_1).f1) t121 t125 _ A10.out).mono ?_); rintro e w' ⟨rfl, ⟨nd, rfl⟩⟩; refine ⟨_, rfl, ?_⟩))
        go_ret2
        exact sEnd HB
      ·replace c11 := Bool.eq_false_iff.mpr c11
       subst c11
       rw [if_neg (show ¬ (false = true) by decide)] at H
       have H' := Aside0.mk H
       clear H
       have p117 : 0 ≤ (x17_1 : Int) := of_decide_eq_true (by first | (with_reducible assumption) | assumption)
       have q117 : x17_1 < (l1.length : Int) := of_decide_eq_true (by first | (with_reducible assumption) | assumption)
       obtain ⟨ad117, e117, hx117_0, hx117_1⟩ := at_T56 HR1.out x17_1 p117 q117
       cases e117
       replace hx117_0 := (HB.out.cell (World.block_lt_of_cell? w _ hx117_0)).trans hx117_0
       replace hx117_1 := (HB.out.cell (World.block_lt_of_cell? w _ hx117_1)).trans hx117_1
       replace p117 := eq_true p117
       replace q117 := eq_true q117
       go_wp2_with (first | ((with_reducible refine gate_dst (N := 11) rfl ?_); refine boxK (N := 11) (#[.int .i64 0, .int .i64 0]) 56 ?_; intro gb118 hg w27 hbox hb; have BK118 := Aside0.mk (hbox); have GW118 := sG hg HB; have GE118 := sG hg HB; replace HB := sB HB hb; clear hb hbox hg; have z28 := bk2 BK118) | ((with_reducible refine gate_callee (f := 59) rfl ?_); refine goesK (some 26) Try.func59 #[.slice (some ad117) l1.length c1, .int .i64 x17_1, .slice A2 l2.length c2] ?_; (with_reducible refine (image_spot.calls _ _ l1 x17_1 _ _ l2 t119 t120 t121 t122 t123 _ ?side1 ?side2 ?side3 ?side4 A8.out).mono ?_); (case side1 => exact sCb HR1 HB); (case side2 => exact HC1.out); (case side3 => exact sCb HR2 HB); (case side4 => exact HC2.out); rintro e w29 ⟨rfl, hb⟩; refine ⟨_, rfl, ?_⟩; replace BK118 := sKp (.cells #[.int .i64 ((rd_T56 l1 x17_1).f0), .int .i64 ((rd_T56 l1 x17_1).f1)] 56 (0, 0)) BK118 hb; replace HB := sB HB hb; (try clear hb)) | ((with_reducible refine gate_dst (N := 12) rfl ?_); refine boxK (N := 12) (#[.int .i64 0, .int .i64 0, .int .i64 0, .bool false]) 63 ?_; intro gb124 hg w30 hbox hb; have BK124 := Aside0.mk (hbox); have GW124 := sG hg HB; have GE124 := sG hg HB; replace HB := sB HB hb; have NB118_124 := sNl hg BK118; have NB124_118 := sNg hg BK118; replace BK118 := sK BK118 hb; clear hb hbox hg; have hnb31 := NB124_118.out; have hnc31 := NB118_124.out; have z32 := bk4 BK124; have z33 := bk2 BK118) | ((with_reducible refine gate_callee (f := 52) rfl ?_); refine goesK (some 37) Try.func52 #[.int .i64 ((rd_T56 l1 x17_1).f1), .int .i64 t121] ?_; (with_reducible refine (image_mask.calls ((rd_T56 l1 x17_1).f1) t121 t125 _ A10.out).mono ?_); rintro e w' ⟨rfl, ⟨nd, rfl⟩⟩; refine ⟨_, rfl, ?_⟩))
       go_roundg k1
       case measure => have := HK1.out; omega
       case rel => exact ⟨(Go.bits .or .u64 x0_1 t125), (wrap64 (x17_1 + 1)), (by first | rfl | (simp; done) | (simp [*]; done)), (by first | rfl | (simp; done) | (simp [*]; done)), H', ⟨by have := HK1.out; omega⟩, (sB0 HB)⟩
     ·rw [if_neg c9] at H
      have c9b0 : (t123 == 0) = false := beq_eq_false_iff_ne.mpr c9
      have c9b1 : (t123 != 0) = true := bne_iff_ne.mpr c9
      simp only [Option.some.injEq, Prod.mk.injEq] at H
      obtain ⟨rfl, rfl⟩ := H
      have p117 : 0 ≤ (x17_1 : Int) := of_decide_eq_true (by first | (with_reducible assumption) | assumption)
      have q117 : x17_1 < (l1.length : Int) := of_decide_eq_true (by first | (with_reducible assumption) | assumption)
      obtain ⟨ad117, e117, hx117_0, hx117_1⟩ := at_T56 HR1.out x17_1 p117 q117
      cases e117
      replace hx117_0 := (HB.out.cell (World.block_lt_of_cell? w _ hx117_0)).trans hx117_0
      replace hx117_1 := (HB.out.cell (World.block_lt_of_cell? w _ hx117_1)).trans hx117_1
      replace p117 := eq_true p117
      replace q117 := eq_true q117
      go_wp2_with (first | ((with_reducible refine gate_dst (N := 11) rfl ?_); refine boxK (N := 11) (#[.int .i64 0, .int .i64 0]) 56 ?_; intro gb118 hg w34 hbox hb; have BK118 := Aside0.mk (hbox); have GW118 := sG hg HB; have GE118 := sG hg HB; replace HB := sB HB hb; clear hb hbox hg; have z35 := bk2 BK118) | ((with_reducible refine gate_callee (f := 59) rfl ?_); refine goesK (some 26) Try.func59 #[.slice (some ad117) l1.length c1, .int .i64 x17_1, .slice A2 l2.length c2] ?_; (with_reducible refine (image_spot.calls _ _ l1 x17_1 _ _ l2 t119 t120 t121 t122 t123 _ ?side1 ?side2 ?side3 ?side4 A8.out).mono ?_); (case side1 => exact sCb HR1 HB); (case side2 => exact HC1.out); (case side3 => exact sCb HR2 HB); (case side4 => exact HC2.out); rintro e w36 ⟨rfl, hb⟩; refine ⟨_, rfl, ?_⟩; replace BK118 := sKp (.cells #[.int .i64 ((rd_T56 l1 x17_1).f0), .int .i64 ((rd_T56 l1 x17_1).f1)] 56 (0, 0)) BK118 hb; replace HB := sB HB hb; (try clear hb)) | ((with_reducible refine gate_dst (N := 12) rfl ?_); refine boxK (N := 12) (#[.int .i64 0, .int .i64 0, .int .i64 0, .bool false]) 63 ?_; intro gb124 hg w37 hbox hb; have BK124 := Aside0.mk (hbox); have GW124 := sG hg HB; have GE124 := sG hg HB; replace HB := sB HB hb; have NB118_124 := sNl hg BK118; have NB124_118 := sNg hg BK118; replace BK118 := sK BK118 hb; clear hb hbox hg; have hnb38 := NB124_118.out; have hnc38 := NB118_124.out; have z39 := bk4 BK124))
      go_ret2
      exact sEnd HB
    ·rw [if_neg c7] at H
     exact absurd H (by simp)
   ·rw [if_neg c6] at H
    exact absurd H (by simp)
  ·rw [if_neg c5] at H
   have c5b0 : decide (x17_1 < (l1.length : Int)) = false := decide_eq_false c5
   clear c5
   simp only [Option.some.injEq, Prod.mk.injEq] at H
   obtain ⟨rfl, rfl⟩ := H
   go_wp2
   go_ret2
   exact sEnd HB

/-! ### image_Lay: function 37 -/
def image_Lay.j0 : Nat → Int → List (S56) → List (S63) → Bool → Option (Int × Int)
 | 0, _, _, _, _ => none
 | k + 1, x0, x1, x2, x13 => if x13 = true then (some (2, (-1))) else ((image_mask.f 0 x0).bind fun t126 => ((image_lay.f k t126 x1 x2 true).bind fun bt127 => (some (bt127.1, bt127.2))))
def image_Lay.f (k : Nat) (a0 : Int) (l1 : List (S56)) (l2 : List (S63)) : Option (Int × Int) := if a0 < 0 then (image_Lay.j0 k a0 l1 l2 true) else (image_Lay.j0 k a0 l1 l2 (decide (a0 > 64)))
theorem image_Lay.mono_l : ∀ k, (∀ y0 y1 y2 y3, LeO (image_Lay.j0 k y0 y1 y2 y3) (image_Lay.j0 (k + 1) y0 y1 y2 y3))
 | 0 => fun _ _ _ _ r h => by simp [image_Lay.j0] at h
 | k + 1 => by
  have ih0 := image_Lay.mono_l k
  ·intro y0 y1 y2 y3
   unfold image_Lay.j0
   repeat' first
   | (with_reducible exact ih0 _ _ _ _)
   | (with_reducible exact image_lay.mono _ _ _ _ _)
   | (with_reducible exact LeO.refl _)
   | (with_reducible exact LeO.none _)
   | (with_reducible refine LeO.ite ?_ ?_)
   | (with_reducible refine LeO.bind ?_ (fun _ => ?_))
   | exact ih0 _ _ _ _
   | exact image_lay.mono _ _ _ _ _
   | exact LeO.none _
   | refine LeO.ite ?_ ?_
   | refine LeO.bind ?_ (fun _ => ?_)
theorem image_Lay.mono : ∀ a0 a1 a2 k, LeO (image_Lay.f k a0 a1 a2) (image_Lay.f (k + 1) a0 a1 a2) := by
 intro a0 a1 a2 k
 have ih0 := image_Lay.mono_l k
 unfold image_Lay.f
 repeat' first
   | (with_reducible exact ih0 _ _ _ _)
   | (with_reducible exact image_lay.mono _ _ _ _ _)
   | (with_reducible exact LeO.refl _)
   | (with_reducible exact LeO.none _)
   | (with_reducible refine LeO.ite ?_ ?_)
   | (with_reducible refine LeO.bind ?_ (fun _ => ?_))
   | exact ih0 _ _ _ _
   | exact image_lay.mono _ _ _ _ _
   | exact LeO.none _
   | refine LeO.ite ?_ ?_
   | refine LeO.bind ?_ (fun _ => ?_)
set_option maxHeartbeats 8000000 in
set_option maxRecDepth 100000 in
theorem image_Lay.calls (k : Nat) (a0 : Int) (A1 : Option Addr) (c1 : Nat) (l1 : List (S56)) (A2 : Option Addr) (c2 : Nat) (l2 : List (S63)) (r1 r2 : Int) (w : World) (hr1 : Kd.C k56 w A1 l1.length l1) (hc1 : l1.length ≤ c1) (hr2 : Kd.C k63 w A2 l2.length l2) (hc2 : l2.length ≤ c2) (h : image_Lay.f k a0 l1 l2 = some (r1, r2)) :
  Calls Try.prog 37 #[.int .i64 a0, .slice A1 l1.length c1, .slice A2 l2.length c2] w fun e w' => e = .returned (.tuple #[.int .i64 r1, .int .i64 r2]) ∧ Below w.heap.size w w' := by
 have HR1 := Aside0.mk hr1
 have HC1 := Aside0.mk hc1
 clear hr1 hc1
 have HR2 := Aside0.mk hr2
 have HC2 := Aside0.mk hc2
 clear hr2 hc2
 have HB := Aside0.mk (Below.refl w.heap.size w)
 have H : (if a0 < 0 then (image_Lay.j0 k a0 l1 l2 true) else (image_Lay.j0 k a0 l1 l2 (decide (a0 > 64)))) = some (r1, r2) := h
 clear h
 have HC4 := Aside0.mk H
 clear H
 go_enter Try.func37, Try.ntmps37
 go_upto_region 1 with (fail)
 go_cut [13] (fun v13 wc => ∃ (kq : Nat) (x13_3 : Bool), v13 = .bool x13_3 ∧ Aside0 (image_Lay.j0 kq a0 l1 l2 x13_3 = some (r1, r2)) ∧ Aside0 (kq ≤ k) ∧ Aside0 (Below w.heap.size w wc))
 case first =>
  have H := HC4.out
  clear HC4
  by_cases c5 : a0 < 0
  ·rw [if_pos c5] at H
   have c5b0 : decide (a0 < 0) = true := decide_eq_true c5
   clear c5
   (first | rw [c5b0] | (simp only [i64_w, i32_w]; rw [c5b0]) | skip)
   have H' := Aside0.mk H
   clear H
   go_wp2
   go_meet
   case rel => exact ⟨_, (true), (by first | rfl | (simp; done) | (simp [*]; done)), H', ⟨by first | omega | exact Nat.le_refl _⟩, (sB0 HB)⟩
  rw [if_neg c5] at H
  have c5b0 : decide (a0 < 0) = false := decide_eq_false c5
  clear c5
  (first | rw [c5b0] | (simp only [i64_w, i32_w]; rw [c5b0]) | skip)
  have H' := Aside0.mk H
  clear H
  go_wp2
  go_meet
  case rel => exact ⟨_, (decide (a0 > 64)), (by first | rfl | (simp; done) | (simp [*]; done)), H', ⟨by first | omega | exact Nat.le_refl _⟩, (sB0 HB)⟩
 clear HC4
 (try clear c1); (try clear c2); (try clear c5); (try clear c5b0)
 obtain ⟨kq, x13_3, rfl, HA, HJ3, HB⟩ := hcut
 cases kq with
 | zero => exact absurd HA.out (by simp [image_Lay.j0])
 | succ kj3 =>
  have H := HA.out
  clear HA
  simp only [image_Lay.j0] at H
  by_cases c6 : x13_3 = true
  ·subst c6
   rw [if_pos rfl] at H
   simp only [Option.some.injEq, Prod.mk.injEq] at H
   obtain ⟨rfl, rfl⟩ := H
   go_wp2
   go_ret2
   exact sEnd HB
  ·replace c6 := Bool.eq_false_iff.mpr c6
   subst c6
   rw [if_neg (show ¬ (false = true) by decide)] at H
   replace H := Option.bind_eq_some_iff.mp H
   obtain ⟨t126, A70, H⟩ := H
   replace H : ((image_lay.f kj3 t126 l1 l2 true).bind fun bt127 => (some (bt127.1, bt127.2))) = some (r1, r2) := H
   have A7 := Aside0.mk A70
   clear A70
   replace H := Option.bind_eq_some_iff.mp H
   obtain ⟨⟨t127, t128⟩, A80, H⟩ := H
   replace H : (some (t127, t128)) = some (r1, r2) := H
   have A8 := Aside0.mk A80
   clear A80
   simp only [Option.some.injEq, Prod.mk.injEq] at H
   obtain ⟨rfl, rfl⟩ := H
   go_wp2_with (first | ((with_reducible refine gate_callee (f := 52) rfl ?_); refine goesK (some 15) Try.func52 #[.int .i64 0, .int .i64 a0] ?_; (with_reducible refine (image_mask.calls 0 a0 t126 _ A7.out).mono ?_); rintro e w' ⟨rfl, ⟨nd, rfl⟩⟩; refine ⟨_, rfl, ?_⟩) | ((with_reducible refine gate_callee (f := 51) rfl ?_); refine goesK (some 18) Try.func51 #[.int .u64 t126, .slice A1 l1.length c1, .slice A2 l2.length c2, .bool true] ?_; (with_reducible refine (image_lay.calls kj3 t126 _ _ l1 _ _ l2 true t127 t128 _ ?side1 ?side2 ?side3 ?side4 A8.out).mono ?_); (case side1 => repeat (first | exact (Kd.C_below HR1.out (by repeat (first | (with_reducible first | exact HB.out | apply below_alloc | apply pw_below_drewN | apply below_drew1 | refine below_set ?_ (Aside0.out (by assumption))) | exact HB.out))) | (with_reducible refine Kd.C_alloc ?_ _) | (with_reducible refine Kd.C_drewN ?_ _) | (with_reducible refine Kd.C_drew ?_))); (case side2 => exact HC1.out); (case side3 => repeat (first | exact (Kd.C_below HR2.out (by repeat (first | (with_reducible first | exact HB.out | apply below_alloc | apply pw_below_drewN | apply below_drew1 | refine below_set ?_ (Aside0.out (by assumption))) | exact HB.out))) | (with_reducible refine Kd.C_alloc ?_ _) | (with_reducible refine Kd.C_drewN ?_ _) | (with_reducible refine Kd.C_drew ?_))); (case side4 => exact HC2.out); rintro e w9 ⟨rfl, hb⟩; refine ⟨_, rfl, ?_⟩; replace HB := sB HB hb; (try clear hb)))
   go_ret2
   exact sEnd HB

/-! ### verify_Check: function 38 -/
def toIns (x : S54) : Ins := ⟨x.f0, x.f1, x.f2, x.f3, x.f4⟩
def verify_Check.f (l0 : List S54) : Option (Int × Int) := checkF (l0.map toIns)
theorem rsn_of_C {w : World} {A0 : Option Addr} {c0 : Nat} {l0 : List S54} (hr0 : Kd.C k54 w A0 l0.length l0) (hc0 : l0.length ≤ c0) : RSn w 5 encI (.slice A0 l0.length c0) (l0.map toIns) := by
 refine ⟨A0, c0, by rw [List.length_map], by simpa using hc0, by rw [List.length_map]; exact hr0.2.1, fun hne => ?_⟩
 have hpos : 0 < l0.length := by
  rcases l0 with _ | ⟨x, l⟩
  ·simp at hne
  ·simp
 obtain ⟨ad, rfl, hcell⟩ := hr0.2.2 hpos
 have key : ∀ (i : Nat) (x : S54), l0[i]? = some x → ∀ j, j < 5 → w.cell? (ad.add (i * 5 + j)) = (encI (toIns x))[j]? := by
  intro i x hx j hj
  obtain ⟨c, hc1, hc2, hc3⟩ := hcell i x hx
  rw [k54_open hc2] at hc3
  have : j < (encI (toIns x)).length := hj
  rw [List.getElem?_eq_getElem this]
  exact hc3 j _ (List.getElem?_eq_getElem this)
 have h0 := key 0 _ (List.getElem?_eq_getElem hpos) 0 (by omega)
 have ha0 : ad.add (0 * 5 + 0) = ad := by simp [Addr.add]
 rw [ha0] at h0
 have hspot : ad.spot = none := World.cell?_spot (h0.trans rfl)
 obtain ⟨b, off, spot⟩ := ad
 simp only at hspot
 subst hspot
 refine ⟨b, off, rfl, World.block_lt_of_cell? _ _ (h0.trans rfl), fun i x hx j hj => ?_⟩
 rw [List.getElem?_map] at hx
 obtain ⟨y, hy, rfl⟩ := Option.map_eq_some_iff.1 hx
 rw [← key i y hy j hj]
 congr 1
 unfold Addr.add
 split
 ·rename_i h; simp [h]
 ·rfl
theorem verify_Check.calls (A0 : Option Addr) (c0 : Nat) (l0 : List S54) (r1 r2 : Int) (w : World) (hr0 : Kd.C k54 w A0 l0.length l0) (hc0 : l0.length ≤ c0) (h : verify_Check.f l0 = some (r1, r2)) :
  Calls Try.prog 38 #[.slice A0 l0.length c0] w fun e w' => e = .returned (.tuple #[.int .i64 r1, .int .i64 r2]) ∧ Below w.heap.size w w' := checkF_calls h (rsn_of_C hr0 hc0)

/-! ### image_Reach: function 39 -/
def image_Reach.f (k : Nat) (l0 : List (S56)) (l1 : List (S63)) : Option (Int × Int) := (image_lay.f k 0 l0 l1 false).bind fun bt129 => (some (bt129.1, bt129.2))
theorem image_Reach.mono : ∀ a0 a1 k, LeO (image_Reach.f k a0 a1) (image_Reach.f (k + 1) a0 a1) := by
 intro a0 a1 k
 unfold image_Reach.f
 repeat' first
   | (with_reducible exact image_lay.mono _ _ _ _ _)
   | (with_reducible exact LeO.refl _)
   | (with_reducible exact LeO.none _)
   | (with_reducible refine LeO.ite ?_ ?_)
   | (with_reducible refine LeO.bind ?_ (fun _ => ?_))
   | exact image_lay.mono _ _ _ _ _
   | exact LeO.none _
   | refine LeO.ite ?_ ?_
   | refine LeO.bind ?_ (fun _ => ?_)
set_option maxHeartbeats 8000000 in
set_option maxRecDepth 100000 in
theorem image_Reach.calls (k : Nat) (A0 : Option Addr) (c0 : Nat) (l0 : List (S56)) (A1 : Option Addr) (c1 : Nat) (l1 : List (S63)) (r1 r2 : Int) (w : World) (hr0 : Kd.C k56 w A0 l0.length l0) (hc0 : l0.length ≤ c0) (hr1 : Kd.C k63 w A1 l1.length l1) (hc1 : l1.length ≤ c1) (h : image_Reach.f k l0 l1 = some (r1, r2)) :
  Calls Try.prog 39 #[.slice A0 l0.length c0, .slice A1 l1.length c1] w fun e w' => e = .returned (.tuple #[.int .i64 r1, .int .i64 r2]) ∧ Below w.heap.size w w' := by
 have HR0 := Aside0.mk hr0
 have HC0 := Aside0.mk hc0
 clear hr0 hc0
 have HR1 := Aside0.mk hr1
 have HC1 := Aside0.mk hc1
 clear hr1 hc1
 have HB := Aside0.mk (Below.refl w.heap.size w)
 have H : ((image_lay.f k 0 l0 l1 false).bind fun bt129 => (some (bt129.1, bt129.2))) = some (r1, r2) := h
 clear h
 replace H := Option.bind_eq_some_iff.mp H
 obtain ⟨⟨t129, t130⟩, A30, H⟩ := H
 replace H : (some (t129, t130)) = some (r1, r2) := H
 have A3 := Aside0.mk A30
 clear A30
 simp only [Option.some.injEq, Prod.mk.injEq] at H
 obtain ⟨rfl, rfl⟩ := H
 go_enter Try.func39, Try.ntmps39
 go_wp2_with (first | ((with_reducible refine gate_callee (f := 51) rfl ?_); refine goesK (some 8) Try.func51 #[.int .u64 0, .slice A0 l0.length c0, .slice A1 l1.length c1, .bool false] ?_; (with_reducible refine (image_lay.calls k 0 _ _ l0 _ _ l1 false t129 t130 _ ?side1 ?side2 ?side3 ?side4 A3.out).mono ?_); (case side1 => repeat (first | exact HR0.out | (with_reducible refine Kd.C_alloc ?_ _) | (with_reducible refine Kd.C_drewN ?_ _) | (with_reducible refine Kd.C_drew ?_))); (case side2 => exact HC0.out); (case side3 => repeat (first | exact HR1.out | (with_reducible refine Kd.C_alloc ?_ _) | (with_reducible refine Kd.C_drewN ?_ _) | (with_reducible refine Kd.C_drew ?_))); (case side4 => exact HC1.out); rintro e w4 ⟨rfl, hb⟩; refine ⟨_, rfl, ?_⟩; replace HB := sB HB hb; (try clear hb)))
 go_ret2
 exact sEnd HB

/-! ### config_owns: function 40 -/
set_option maxHeartbeats 1000000 in
theorem pred54 (a0_0 a0_1 a0_2 a0_3 a0_4 a0_5 : Int) (A0_6 : Option Addr) (c0_6 : Nat) (l0_6 : List S63) (a1_0 : Int) (B1 B2 : Nat) (w : World) (hr : Kd.C k63 w A0_6 l0_6.length l0_6) (hc : l0_6.length ≤ c0_6)
  (hB1 : B1 < w.heap.size) (hB2 : B2 < w.heap.size) (hcell1 : w.cell? ⟨B1, 6, none⟩ = some (.slice A0_6 l0_6.length c0_6)) (hcell2 : w.cell? ⟨B2, 0, none⟩ = some (.int .i64 a1_0)) :
  PredB k56 54 #[.pointer (some ⟨B1, 0, none⟩), .pointer (some ⟨B2, 0, none⟩)] (fun x => (findB l0_6 x.f0).1.f1 != a1_0) w := fun W x cs hb hK => by
 obtain rfl := k56_open hK
 have hc1 : W.cell? ⟨B1, 6, none⟩ = some (.slice A0_6 l0_6.length c0_6) := (hb.cell (p := ⟨B1, 6, none⟩) hB1).trans hcell1
 have hc2 : W.cell? ⟨B2, 0, none⟩ = some (.int .i64 a1_0) := (hb.cell (p := ⟨B2, 0, none⟩) hB2).trans hcell2
 have hBW1 : B1 < W.heap.size := Nat.lt_of_lt_of_le hB1 hb.size
 have hBW2 : B2 < W.heap.size := Nat.lt_of_lt_of_le hB2 hb.size
 have hne1 : B1 ≠ W.heap.size := by omega
 have hne2 : B2 ≠ W.heap.size := by omega
 have hbW : Below W.heap.size W (W.alloc (.cells #[.int .i64 x.f0, .int .i64 x.f1] 56)) := (Below.refl _ W).alloc (Nat.le_refl _) _
 have hcall := blocks_Find.calls A0_6 c0_6 l0_6 x.f0 _ _ _ _ _ (W.alloc (.cells #[.int .i64 x.f0, .int .i64 x.f1] 56)) (Kd.C_below hr (hb.trans (hbW.mono hb.size))) hc (find_f l0_6 x.f0)
 clear hr hc hcell1 hcell2 hK
 show Calls Try.prog 54 #[.agg #[.int .i64 x.f0, .int .i64 x.f1], .pointer (some ⟨B1, 0, none⟩), .pointer (some ⟨B2, 0, none⟩)] W fun e w' => e = .returned (.bool ((findB l0_6 x.f0).1.f1 != a1_0)) ∧ Below W.heap.size W w'
 generalize (findB l0_6 x.f0).1 = y at hcall ⊢
 generalize (findB l0_6 x.f0).2 = q at hcall
 generalize l0_6.length = n at *
 obtain ⟨y0, y1, y2, y3⟩ := y
 obtain ⟨x0, x1⟩ := x
 simp only at hcall ⊢
 have HB := Aside0.mk hb
 have HW := Aside0.mk hbW
 have hsz := hb.size
 clear hb hbW
 go_enter Try.func54, Try.ntmps54
 go_wp2_with (go_at_call 33; refine hcall.mono ?_; rintro e w' ⟨rfl, hb'⟩; have hc3 : w'.cell? ⟨B2, 0, none⟩ = some (.int .i64 a1_0) := (hb'.cell (p := ⟨B2, 0, none⟩) (by simp; omega)).trans ((HW.out.cell (p := ⟨B2, 0, none⟩) hBW2).trans hc2); have hs3 : W.heap.size + 1 ≤ w'.heap.size := (by have := hb'.size; simpa using this); have hne3 : ¬ B2 = w'.heap.size := (by omega); have hc4 : (w'.alloc (Obj.cells #[.int .i64 y0, .int .i64 y1, .int .i64 y2, .bool y3] 63)).cell? ⟨B2, 0, none⟩ = some (.int .i64 a1_0) := Lib.cell?_alloc_some _ hc3; have HB' := Aside0.mk hb'; clear hb')
 all_goals (go_ret; exact ⟨by simp_all [bne], (HW.out.trans (HB'.out.mono (by simp))).trans (((Below.refl _ w').alloc (Nat.le_refl _) _).mono (by omega))⟩)
def config_owns.f (a0_0 a0_1 a0_2 a0_3 a0_4 a0_5 : Int) (l0_6 : List S63) (l0_7 : List S37) (a1_0 a1_1 a1_2 : Int) (l1_3 : List S54) (l1_4 : List S56) (l1_5 : List S56) : Option Bool :=
 some (!l1_5.any fun x => (findB l0_6 x.f0).1.f1 != a1_0)
set_option maxHeartbeats 1000000 in
theorem config_owns.calls (a0_0 a0_1 a0_2 a0_3 a0_4 a0_5 : Int) (A0_6 : Option Addr) (c0_6 : Nat) (l0_6 : List S63) (A0_7 : Option Addr) (c0_7 : Nat) (l0_7 : List S37) (a1_0 a1_1 a1_2 : Int) (A1_3 : Option Addr) (c1_3 : Nat) (l1_3 : List S54) (A1_4 : Option Addr) (c1_4 : Nat) (l1_4 : List S56) (A1_5 : Option Addr) (c1_5 : Nat) (l1_5 : List S56) (r : Bool) (w : World) (hr0_6 : Kd.C k63 w A0_6 l0_6.length l0_6) (hc0_6 : l0_6.length ≤ c0_6) (hr0_7 : Kd.C k37 w A0_7 l0_7.length l0_7) (hc0_7 : l0_7.length ≤ c0_7) (hr1_3 : Kd.C k54 w A1_3 l1_3.length l1_3) (hc1_3 : l1_3.length ≤ c1_3) (hr1_4 : Kd.C k56 w A1_4 l1_4.length l1_4) (hc1_4 : l1_4.length ≤ c1_4) (hr1_5 : Kd.C k56 w A1_5 l1_5.length l1_5) (hc1_5 : l1_5.length ≤ c1_5) (h : config_owns.f a0_0 a0_1 a0_2 a0_3 a0_4 a0_5 l0_6 l0_7 a1_0 a1_1 a1_2 l1_3 l1_4 l1_5 = some r) :
  Calls Try.prog 40 #[.agg #[.int .i64 a0_0, .int .i64 a0_1, .int .i64 a0_2, .int .i64 a0_3, .int .i64 a0_4, .int .i64 a0_5, .slice A0_6 l0_6.length c0_6, .slice A0_7 l0_7.length c0_7], .agg #[.int .i64 a1_0, .int .i64 a1_1, .int .i64 a1_2, .slice A1_3 l1_3.length c1_3, .slice A1_4 l1_4.length c1_4, .slice A1_5 l1_5.length c1_5]] w fun e w' => e = .returned (.bool r) ∧ Below w.heap.size w w' := by
 obtain rfl := Option.some.inj h
 clear h
 have eg : ∀ args w, (callFunc 54 args).run Try.prog w = .ok (.enter 54 args) w := enters_of Try.func54 (by kernel_rfl) rfl
 obtain ⟨w1, hw1⟩ : ∃ w1, w1 = (w.alloc (.cells #[.int .i64 a0_0, .int .i64 a0_1, .int .i64 a0_2, .int .i64 a0_3, .int .i64 a0_4, .int .i64 a0_5, .slice A0_6 l0_6.length c0_6, .slice A0_7 l0_7.length c0_7] 25)).alloc (.cells #[.int .i64 a1_0, .int .i64 a1_1, .int .i64 a1_2, .slice A1_3 l1_3.length c1_3, .slice A1_4 l1_4.length c1_4, .slice A1_5 l1_5.length c1_5] 37) := ⟨_, rfl⟩
 have hB : Below w.heap.size w w1 := by
  subst hw1
  exact ((Below.refl _ w).alloc (Nat.le_refl _) _).alloc (by simp) _
 have hcon := has_spot k56 rfl (fun x => (findB l0_6 x.f0).1.f1 != a1_0) 54 #[.pointer (some ⟨w.heap.size, 0, none⟩), .pointer (some ⟨w.heap.size + 1, 0, none⟩)] eg A1_5 c1_5 l1_5 w1
  (pred54 a0_0 a0_1 a0_2 a0_3 a0_4 a0_5 A0_6 c0_6 l0_6 a1_0 w.heap.size (w.heap.size + 1) _ (Kd.C_below hr0_6 hB) hc0_6 (by subst hw1; simp; omega) (by subst hw1; simp) (by subst hw1; simp) (by subst hw1; simp)) (Kd.C_below hr1_5 hB) hc1_5
 clear hr0_7 hc0_7 hr0_6 hc0_6 hr1_3 hc1_3 hr1_4 hc1_4 hr1_5 hc1_5 hB
 generalize (l1_5.any fun x => (findB l0_6 x.f0).1.f1 != a1_0) = r at hcon ⊢
 subst hw1
 generalize l0_7.length = n at hcon ⊢
 generalize l0_6.length = m at hcon ⊢
 generalize l1_3.length = m3 at hcon ⊢
 generalize l1_4.length = m4 at hcon ⊢
 generalize l1_5.length = m5 at hcon ⊢
 go_enter Try.func40, Try.ntmps40
 go_wp2_with (go_at_call 31; refine hcon.mono ?_; rintro e w' ⟨rfl, hb'⟩)
 go_ret
 exact ⟨rfl, (((Below.refl _ w).alloc (Nat.le_refl _) _).alloc (by simp) _).trans (hb'.mono (by simp; omega))⟩

end Go.Proofs.Ytedmikeamgebjaa.R
